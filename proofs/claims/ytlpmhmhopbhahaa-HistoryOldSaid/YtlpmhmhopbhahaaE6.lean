/- Walks and plain laws: what each theorem says, within the bounds that it names. -/
import Derived.Test.YtlpmhmhopbhahaaE5
set_option linter.unusedVariables false
set_option linter.unusedSimpArgs false
set_option maxRecDepth 20000
namespace Go.Flat
open Go.Proofs
variable {G : Glob}
/-- A log that grew by May: right, and each client's counts rise. -/
def goodA (l : List Item) : Prop := rightL l ∧ ∀ i j, i < j → j < l.length → (l.getD i default).entry.kind = 1 → (l.getD j default).entry.kind = 1 → (l.getD i default).entry.client = (l.getD j default).entry.client → (l.getD i default).entry.seq < (l.getD j default).entry.seq
theorem goodA_nil : goodA [] := ⟨⟨Nat.zero_le _, rfl⟩, fun i j _ h => absurd h (by simp)⟩
theorem goodF_last : ∀ (l : List Item) (ep : Int) (x : Item), goodF ep l = true → rightI x → (l = [] → ep ≤ x.epoch) → (l ≠ [] → (l.getD (l.length - 1) default).epoch ≤ x.epoch) → goodF ep (l ++ [x]) = true
  | [], ep, x, _, hx, h0, _ => by
    show (decide (rightI x) && decide (ep ≤ x.epoch) && true) = true
    rw [decide_eq_true hx, decide_eq_true (h0 rfl)]; rfl
  | y :: l, ep, x, h, hx, _, h1 => by
    rw [goodF, Bool.and_eq_true] at h
    show (decide (rightI y) && decide (ep ≤ y.epoch) && goodF y.epoch (l ++ [x])) = true
    rw [h.1, Bool.true_and]
    have h2 := h1 (by simp)
    refine goodF_last l y.epoch x h.2 hx (fun e => ?_) (fun e => ?_)
    · subst e; exact h2
    · have hp : 0 < l.length := by cases l with | nil => exact absurd rfl e | cons => simp
      rw [show (y :: l).length - 1 = (l.length - 1) + 1 from by simp; omega] at h2
      exact h2
theorem mayF_0 {l : List Item} {n : Nat} {x : Item} (h : mayF l n x = 0) : rightL l ∧ rightI x ∧ ¬ (0 < n ∧ x.epoch < (l.getD (n - 1) default).epoch) ∧ n < 2000 ∧ (x.entry.kind = 1 → oldL l x.entry.client x.entry.seq = false) := by
  unfold mayF at h
  split at h
  · omega
  · rename_i h1
    split at h
    · omega
    · rename_i h2
      split at h
      · omega
      · rename_i h3
        have hr : rightL l := Decidable.byContradiction fun q => h1 (.inl q)
        have hx : rightI x := Decidable.byContradiction fun q => h1 (.inr q)
        refine ⟨hr, hx, h2, by omega, fun hk => ?_⟩
        rw [if_neg (fun q => q hk)] at h
        cases ho : oldL l x.entry.client x.entry.seq with
        | false => rfl
        | true => rw [ho] at h; simp at h
theorem goodA_app {l : List Item} {x : Item} {n : Nat} (hg : goodA l) {h0 : l.length = n} (h : mayF l n x = 0) : goodA (l ++ [x]) := by
  subst h0
  obtain ⟨h1, h2, h3, h4, h5⟩ := mayF_0 h
  have hgl : ∀ i, i < l.length → (l ++ [x]).getD i default = l.getD i default := fun i hi => by
    rw [List.getD_eq_getElem?_getD, List.getElem?_append_left hi, ← List.getD_eq_getElem?_getD]
  have hgx : (l ++ [x]).getD l.length default = x := by
    rw [List.getD_eq_getElem?_getD, List.getElem?_append_right (Nat.le_refl _), Nat.sub_self]; rfl
  refine ⟨⟨by rw [List.length_append]; show l.length + 1 ≤ 2000; omega, goodF_last l 0 x h1.2 h2 (fun _ => by have := h2.1; omega) (fun e => ?_)⟩, fun i j hij hj hki hkj hc => ?_⟩
  · have hp : 0 < l.length := by cases l with | nil => exact absurd rfl e | cons => simp
    exact Int.not_lt.1 fun q => h3 ⟨hp, q⟩
  · rw [List.length_append] at hj
    have hj' : j < l.length + 1 := hj
    rw [hgl i (by omega)] at hki hc ⊢
    rcases Nat.lt_or_ge j l.length with q | q
    · rw [hgl j q] at hkj hc ⊢
      exact hg.2 i j hij q hki hkj hc
    · obtain rfl : j = l.length := by omega
      rw [hgx] at hkj hc ⊢
      have ho := h5 hkj
      refine Int.not_le.1 fun q => ?_
      have : oldL l x.entry.client x.entry.seq = true := any_idx.2 ⟨i, hij, decide_eq_true ⟨hki, hc, q⟩⟩
      rw [ho] at this; cases this
def lastOK (l : List Item) (i : Nat) (la : Nat → Int) : Prop := ∀ c : Nat, 1 ≤ c → c ≤ 3 → la c = 0 ∨ ∃ j, j < i ∧ j < l.length ∧ (l.getD j default).entry.kind = 1 ∧ (l.getD j default).entry.client = (c : Int) ∧ (l.getD j default).entry.seq = la c
theorem lastOK_zero (l : List Item) : lastOK l 0 (fun _ => (0 : Int)) := fun _ _ _ => .inl rfl
theorem lastOK_next {l : List Item} {i : Nat} {la : Nat → Int} (h : lastOK l i la) : lastOK l (i + 1) la := fun c h1 h2 => by
  rcases h c h1 h2 with q | ⟨j, q1, q2⟩
  · exact .inl q
  · exact .inr ⟨j, by omega, q2⟩
theorem lastOK_put {l : List Item} {i : Nat} {la : Nat → Int} (h : lastOK l i la) (hi : i < l.length) (hk : (l.getD i default).entry.kind = 1) (h1 : 1 ≤ (l.getD i default).entry.client) (h3 : (l.getD i default).entry.client ≤ 3) (hz : 0 ≤ (l.getD i default).entry.client) : lastOK l (i + 1) (updN la (l.getD i default).entry.client.toNat (l.getD i default).entry.seq) := fun c g1 g2 => by
  by_cases e : c = (l.getD i default).entry.client.toNat
  · right
    exact ⟨i, by omega, hi, hk, by omega, by simp [updN, e]⟩
  · rcases h c g1 g2 with q | ⟨j, q1, q2, q3, q4, q5⟩
    · left; simp only [updN]; rw [if_neg e]; exact q
    · right; exact ⟨j, by omega, q2, q3, q4, by simp only [updN]; rw [if_neg e]; exact q5⟩
theorem goodF_at : ∀ (l : List Item) (ep : Int) (i : Nat), goodF ep l = true → i < l.length → rightI (l.getD i default)
  | [], _, i, _, h => absurd h (by simp)
  | x :: l, ep, 0, h, _ => by
    rw [goodF, Bool.and_eq_true, Bool.and_eq_true] at h
    exact of_decide_eq_true h.1.1
  | x :: l, ep, i + 1, h, hi => by
    rw [goodF, Bool.and_eq_true] at h
    exact goodF_at l x.epoch i h.2 (by simpa using hi)
theorem old_facts {l : List Item} {i : Nat} {la : Nat → Int} (hg : goodA l) (hi : i < l.length) (hla : lastOK l i la) (hk : (l.getD i default).entry.kind = 1) :
    1 ≤ (l.getD i default).entry.client ∧ (l.getD i default).entry.client ≤ 3 ∧ findL l (l.getD i default).entry.client (l.getD i default).entry.seq = ((i : Int), true) ∧ la (l.getD i default).entry.client.toNat < (l.getD i default).entry.seq := by
  have hr := (goodF_at l 0 i hg.1.2 hi).2.2
  have hu : 1 ≤ (l.getD i default).entry.client ∧ (l.getD i default).entry.client ≤ 3 ∧ 1 ≤ (l.getD i default).entry.seq := by
    rcases hr with q | q | q
    · exact ⟨q.2.1, q.2.2.1, q.2.2.2.1⟩
    · have := q.1; omega
    · have := q.1; omega
  refine ⟨hu.1, hu.2.1, findF_yes (findF_skip i (by omega) fun j hj q => ?_) hi ⟨hk, rfl, rfl⟩, ?_⟩
  · have := hg.2 i i
    have h2 := hg.2 j i hj hi q.1 hk q.2.1
    have := q.2.2; omega
  · rcases hla (l.getD i default).entry.client.toNat (by omega) (by omega) with q | ⟨j, q1, q2, q3, q4, q5⟩
    · omega
    · have h2 := hg.2 j i q1 hi q3 hk (by omega)
      omega
theorem HistoryOld_ok (l : List Item) (c : Nat) (hl : l.length ≤ c) (hcc : c ≤ 9223372036854775807) : CallL Try.prog G 4 [slv 0 0 l.length c] [rwR cItem l] (.bool true) [rwR cItem l] := by
  refine walk (fn := Try.f4) (nt := 93) rfl rfl rfl rfl ?_
  refine c_hole 1 (H' := [rwR cItem l, hole]) rfl ?_
  refine c_seq ?_
  refine c_reg ?_
  refine r_assign (v := .bool false) rfl rfl rfl ?_
  refine r_doneN ?_
  refine x_then ?_
  refine c_seq ?_
  refine c_seq ?_
  refine c_reg ?_
  refine r_move (v := slv 0 0 l.length c) rfl rfl rfl ?_
  refine r_callN (e := [some (0, 0)]) (nid := 0) (refBig_ok (G := G) l l.length c rfl (by omega) (by omega)) (vals := [slv 0 0 l.length c]) (v := .bool (bigB l)) (H' := [rwR cItem l, hole]) rfl rfl rfl rfl rfl rfl rfl ⟨⟨⟨rfl, rfl, rfl, by first | omega | exact Nat.le_refl _, by first | omega | exact Nat.le_refl _⟩, trivial⟩, ⟨(emb_rwR rfl), trivial⟩, rfl, rfl, rfl⟩ rfl (by kernel_rfl) ?_
  refine r_doneN ?_
  refine x_then ?_
  rcases Bool.eq_false_or_eq_true (bigB l) with h1 | h1
  · skip
    refine c_true (congrArg Value.bool h1) ?_
    refine c_seq ?_
    refine c_reg ?_
    refine r_assign (v := .bool true) rfl rfl rfl ?_
    refine r_doneN ?_
    refine x_then ?_
    refine c_ret ?_
    refine x_thenR ?_
    refine x_end ?_
    exact end_map [0] (v := .bool true) rfl (by kernel_rfl) rfl rfl (by decide) (by simp [keptB, rwR, cItem]) rfl
  refine c_false (congrArg Value.bool h1) ?_
  refine c_skip ?_
  refine x_then ?_
  refine c_seq ?_
  have hn60 : l.length ≤ 60 := bigB_len (by assumption)
  refine c_reg ?_
  refine r_assign (v := .slice none 0 0) rfl rfl rfl ?_
  refine r_doneN ?_
  refine x_then ?_
  refine c_seq ?_
  refine c_seq ?_
  refine c_weak (Weak.nilTmp (i := 3) (b := 1) true 110 rfl (by decide) rfl) ?_
  refine c_reg ?_
  refine r_assign (v := .int .i64 0) rfl rfl rfl ?_
  refine r_doneN ?_
  refine x_then ?_
  refine c_block ?_
  refine c_loopN (fun x : Nat × Nat × (List Item) => match x with | (i, m, acc) => [slv 0 0 l.length c, dead, .bool false, slv 1 0 m m, .int .i64 (i : Nat), dead, dead, dead, dead, dead, slv 0 0 l.length c, .bool (bigB l)]) (fun x : Nat × Nat × (List Item) => match x with | (i, m, acc) => [rwR cItem l, rwB cItem acc]) (fun x : Nat × Nat × (List Item) => match x with | (i, m, acc) => goodA acc ∧ acc.length = m ∧ m ≤ i ∧ i ≤ l.length) (fun x : Nat × Nat × (List Item) => match x with | (i, m, acc) => l.length - i) (0, 0, []) ⟨goodA_nil, rfl, by omega, by omega⟩ ?_ ?_
  · refine weak_to (n := 2) rfl ?_ (by kernel_rfl) (by kernel_rfl)
    repeat (first | exact trivial | refine ⟨.inl rfl, ?_⟩ | refine ⟨.inr ⟨rfl, rfl⟩, ?_⟩ | refine ⟨.inr ⟨congrArg (Value.int .i64) (by first | omega | (dsimp only; omega)), rfl⟩, ?_⟩)
  rintro ⟨i, m, acc⟩ ⟨hg, ha, hm, hi⟩
  dsimp only at *
  refine c_hole 2 (H' := [rwR cItem l, rwB cItem acc, hole, hole]) rfl ?_
  refine c_seq ?_
  refine c_seq ?_
  refine c_reg ?_
  refine r_move (v := .int .i64 (i : Nat)) rfl rfl rfl ?_
  refine r_move (v := slv 0 0 l.length c) rfl rfl rfl ?_
  refine r_len (p := slv 0 0 l.length c) (v := .int .i64 (l.length : Nat)) rfl rfl rfl rfl ?_
  by_cases h2 : (i : Nat) < (l.length : Nat)
  · skip
    refine r_bin (v := .bool true) (vx := .int .i64 (i : Nat)) (vy := .int .i64 (l.length : Nat)) rfl rfl rfl rfl (lss_t (by omega)) ?_
    refine r_doneN ?_
    refine x_then ?_
    refine c_true rfl ?_
    refine c_skip ?_
    refine x_then ?_
    refine c_seq ?_
    refine c_block ?_
    refine c_seq ?_
    refine c_reg ?_
    refine r_move (v := slv 1 0 m m) rfl rfl rfl ?_
    refine r_move (v := slv 0 0 l.length c) rfl rfl rfl ?_
    refine r_move (v := .int .i64 (i : Nat)) rfl rfl rfl ?_
    refine r_idxS (b := 0) (o := 0) (j := i * 110) (m := l.length) (c := c) (sz := 110) (i := (i : Nat)) (k := .i64) rfl rfl rfl rfl rfl (by omega) (by omega) (by omega) ?_
    refine r_load (p := pt 0 (i * 110)) (v := itemV (l.getD i default)) rfl rfl rfl (load_rw (n := 0) (m := 110) cItem rfl rfl rfl rfl (by omega) (by omega)) ?_
    refine r_callN (e := [some (1, 0)]) (nid := 0) (May_ok (G := G) acc m m ha (by omega) (by omega) (l.getD i default)) (vals := [slv 1 0 m m, itemV (l.getD i default)]) (v := .int .i64 ((mayF acc m (l.getD i default)))) (H' := [rwR cItem l, rwB cItem acc, hole, hole]) rfl rfl rfl rfl rfl rfl rfl ⟨⟨⟨rfl, rfl, rfl, by first | omega | exact Nat.le_refl _, by first | omega | exact Nat.le_refl _⟩, rfl, trivial⟩, ⟨(emb_rwB rfl), trivial⟩, rfl, rfl, rfl⟩ rfl (by kernel_rfl) ?_
    by_cases h3 : ((mayF acc m (l.getD i default))) = 0
    · skip
      refine r_bin (v := .bool true) (vx := .int .i64 ((mayF acc m (l.getD i default)))) (vy := .int .i64 0) rfl rfl rfl rfl (eql_t (by omega)) ?_
      refine r_doneN ?_
      refine x_then ?_
      refine c_true rfl ?_
      refine c_reg ?_
      refine r_move (v := slv 1 0 m m) rfl rfl rfl ?_
      refine r_move (v := slv 0 0 l.length c) rfl rfl rfl ?_
      refine r_move (v := .int .i64 (i : Nat)) rfl rfl rfl ?_
      refine r_idxS (b := 0) (o := 0) (j := i * 110) (m := l.length) (c := c) (sz := 110) (i := (i : Nat)) (k := .i64) rfl rfl rfl rfl rfl (by omega) (by omega) (by omega) ?_
      refine r_load (p := pt 0 (i * 110)) (v := itemV (l.getD i default)) rfl rfl rfl (load_rw (n := 0) (m := 110) cItem rfl rfl rfl rfl (by omega) (by omega)) ?_
      refine r_lit (vs := [(0, itemV (l.getD i default))]) (v := slv 2 0 1 1) (blk := rwB cItem [(l.getD i default)]) (nid := 2) (H' := [rwR cItem l, rwB cItem acc, rwB cItem [(l.getD i default)], hole]) rfl rfl rfl (by kernel_rfl) (by kernel_rfl) ?_
      have hl2 : (acc ++ [(l.getD i default)]).length = m + 1 := by have := ha; have := (rfl : _ = 1); first | (rw [List.length_append]; omega) | (simp; omega) | simp
      refine r_append (p := slv 1 0 m m) (q := slv 2 0 1 1) (v := slv 1 0 (m + 1) (m + 1)) (b := 1) (blk := rwB cItem (acc ++ [(l.getD i default)])) (H' := [rwR cItem l, rwB cItem (acc ++ [(l.getD i default)]), rwB cItem [(l.getD i default)], hole]) rfl rfl rfl (.inl ⟨_, rfl⟩) rfl rfl (appD_rw cItem (by_ := 216) (k := 1) (n' := m + 1) (ms := [(l.getD i default)]) (fun _ => rfl) rfl rfl (by kernel_rfl) rfl rfl (by have := ha; omega) (by omega) (by decide) (by omega)) rfl (by kernel_rfl) ?_
      refine r_assign (v := slv 1 0 (m + 1) (m + 1)) rfl rfl rfl ?_
      refine r_doneN ?_
      refine x_blockN ?_
      refine x_then ?_
      refine c_reg ?_
      refine r_move (v := .int .i64 (i : Nat)) rfl rfl rfl ?_
      refine r_bin (v := .int .i64 ((i : Nat) + 1)) (vx := .int .i64 (i : Nat)) (vy := .int .i64 1) rfl rfl rfl rfl (bin_add (by omega) (by omega) (by omega)) ?_
      refine r_assign (v := .int .i64 ((i : Nat) + 1)) rfl rfl rfl ?_
      refine r_doneN ?_
      refine x_round ⟨((i + 1), (m + 1), (acc ++ [(l.getD i default)])), ⟨goodA_app hg (h0 := ha) (by assumption), by rw [List.length_append, ha]; rfl, by dsimp only; omega, by dsimp only; omega⟩, by show l.length - (i + 1) < l.length - i; omega, ?_⟩
      refine weak_to (n := 2) rfl ?_ (by kernel_rfl) (by kernel_rfl)
      repeat (first | exact trivial | refine ⟨.inl rfl, ?_⟩ | refine ⟨.inr ⟨rfl, rfl⟩, ?_⟩ | refine ⟨.inr ⟨congrArg (Value.int .i64) (by first | omega | (dsimp only; omega)), rfl⟩, ?_⟩)
    refine r_bin (v := .bool false) (vx := .int .i64 ((mayF acc m (l.getD i default)))) (vy := .int .i64 0) rfl rfl rfl rfl (eql_f (by omega)) ?_
    refine r_doneN ?_
    refine x_then ?_
    refine c_false rfl ?_
    refine c_skip ?_
    refine x_blockN ?_
    refine x_then ?_
    refine c_reg ?_
    refine r_move (v := .int .i64 (i : Nat)) rfl rfl rfl ?_
    refine r_bin (v := .int .i64 ((i : Nat) + 1)) (vx := .int .i64 (i : Nat)) (vy := .int .i64 1) rfl rfl rfl rfl (bin_add (by omega) (by omega) (by omega)) ?_
    refine r_assign (v := .int .i64 ((i : Nat) + 1)) rfl rfl rfl ?_
    refine r_doneN ?_
    refine x_round ⟨((i + 1), m, acc), ⟨hg, ha, by dsimp only; omega, by dsimp only; omega⟩, by show l.length - (i + 1) < l.length - i; omega, ?_⟩
    refine weak_to (n := 2) rfl ?_ (by kernel_rfl) (by kernel_rfl)
    repeat (first | exact trivial | refine ⟨.inl rfl, ?_⟩ | refine ⟨.inr ⟨rfl, rfl⟩, ?_⟩ | refine ⟨.inr ⟨congrArg (Value.int .i64) (by first | omega | (dsimp only; omega)), rfl⟩, ?_⟩)
  refine r_bin (v := .bool false) (vx := .int .i64 (i : Nat)) (vy := .int .i64 (l.length : Nat)) rfl rfl rfl rfl (lss_f (by omega)) ?_
  refine r_doneN ?_
  refine x_then ?_
  refine c_false rfl ?_
  refine c_exit ?_
  refine x_thenE ?_
  refine x_leaveE ?_
  refine x_block rfl ?_
  refine x_then ?_
  refine c_seq ?_
  refine c_reg ?_
  refine r_build (vs := []) (v := .agg (rowE wI 4 (fun _ => (0 : Int))).toArray) rfl rfl rfl (by kernel_rfl) ?_
  refine r_alloc (b := bxB 4 (rowE wI 4 (fun _ => (0 : Int)))) (nid := 2) (H' := [rwR cItem l, rwB cItem acc, bxB 4 (rowE wI 4 (fun _ => (0 : Int))), hole]) rfl rfl (by kernel_rfl) (by kernel_rfl) ?_
  refine r_store (p := pt 2 0) (v := .agg (rowE wI 4 (fun _ => (0 : Int))).toArray) (b := 2) (blk := bxB 4 (rowE wI 4 (fun _ => (0 : Int)))) (H' := [rwR cItem l, rwB cItem acc, bxB 4 (rowE wI 4 (fun _ => (0 : Int))), hole]) rfl rfl rfl (by kernel_rfl) (by kernel_rfl) ?_
  refine r_doneN ?_
  refine x_then ?_
  refine c_seq ?_
  refine c_seq ?_
  refine c_reg ?_
  refine r_assign (v := .int .i64 0) rfl rfl rfl ?_
  refine r_doneN ?_
  refine x_then ?_
  refine c_block ?_
  refine c_loopN (fun x : Nat × (Nat → Int) => match x with | (j, la) => [slv 0 0 l.length c, dead, dead, slv 1 0 m m, .int .i64 (i : Nat), pt 2 0, .int .i64 (j : Nat), dead, dead, dead, slv 0 0 l.length c, .bool (bigB l), .int .i64 (i : Nat), slv 0 0 l.length c, .int .i64 (l.length : Nat), .bool false, dead, dead, dead, dead, dead, dead, dead, dead, dead, dead, dead, dead, dead, dead, dead, dead, .agg (rowE wI 4 (fun _ => (0 : Int))).toArray]) (fun x : Nat × (Nat → Int) => match x with | (j, la) => [rwR cItem l, rwB cItem acc, bxB 4 (rowE wI 4 la)]) (fun x : Nat × (Nat → Int) => match x with | (j, la) => lastOK acc j la ∧ j ≤ m) (fun x : Nat × (Nat → Int) => match x with | (j, la) => m - j) (0, (fun _ => (0 : Int))) ⟨lastOK_zero acc, by omega⟩ ?_ ?_
  · refine weak_to (n := 3) rfl ?_ (by kernel_rfl) (by kernel_rfl)
    repeat (first | exact trivial | refine ⟨.inl rfl, ?_⟩ | refine ⟨.inr ⟨rfl, rfl⟩, ?_⟩ | refine ⟨.inr ⟨congrArg (Value.int .i64) (by first | omega | (dsimp only; omega)), rfl⟩, ?_⟩)
  rintro ⟨j, la⟩ ⟨hla, hj⟩
  dsimp only at *
  refine c_hole 1 (H' := [rwR cItem l, rwB cItem acc, bxB 4 (rowE wI 4 la), hole]) rfl ?_
  refine c_seq ?_
  refine c_seq ?_
  refine c_reg ?_
  refine r_move (v := .int .i64 (j : Nat)) rfl rfl rfl ?_
  refine r_move (v := slv 1 0 m m) rfl rfl rfl ?_
  refine r_len (p := slv 1 0 m m) (v := .int .i64 (m : Nat)) rfl rfl rfl rfl ?_
  by_cases h4 : (j : Nat) < (m : Nat)
  · skip
    refine r_bin (v := .bool true) (vx := .int .i64 (j : Nat)) (vy := .int .i64 (m : Nat)) rfl rfl rfl rfl (lss_t (by omega)) ?_
    refine r_doneN ?_
    refine x_then ?_
    refine c_true rfl ?_
    refine c_skip ?_
    refine x_then ?_
    refine c_seq ?_
    refine c_block ?_
    refine c_seq ?_
    refine c_reg ?_
    refine r_move (v := slv 1 0 m m) rfl rfl rfl ?_
    refine r_move (v := .int .i64 (j : Nat)) rfl rfl rfl ?_
    refine r_idxS (b := 1) (o := 0) (j := j * 110) (m := m) (c := m) (sz := 110) (i := (j : Nat)) (k := .i64) rfl rfl rfl rfl rfl (by omega) (by omega) (by omega) ?_
    refine r_fieldAddr (b := 1) (o := j * 110) (n := 1) (o' := j * 110 + 1) rfl rfl rfl rfl (by omega) ?_
    refine r_load (p := pt 1 (j * 110 + 1)) (v := entV ((acc.getD j default).entry)) rfl rfl rfl (load_fldN cItem (l := acc) (i := j) (k := 1) (m := 110) rfl rfl rfl rfl (by have := ha; omega) (by omega) (by decide) (by kernel_rfl)) ?_
    refine r_alloc (b := bxB 109 (entC (⟨0, 0, 0, ⟨#[]⟩, (⟨(⟨0, 0, 0, dz, 0⟩ : Head), 0, dz⟩ : Signed), (⟨0, 0, 0, 0, dz⟩ : Claim)⟩ : Entry))) (nid := 3) (H' := [rwR cItem l, rwB cItem acc, bxB 4 (rowE wI 4 la), bxB 109 (entC (⟨0, 0, 0, ⟨#[]⟩, (⟨(⟨0, 0, 0, dz, 0⟩ : Head), 0, dz⟩ : Signed), (⟨0, 0, 0, 0, dz⟩ : Claim)⟩ : Entry))]) rfl rfl (by kernel_rfl) (by kernel_rfl) ?_
    refine r_store (p := pt 3 0) (v := entV ((acc.getD j default).entry)) (b := 3) (blk := bxB 109 (entC ((acc.getD j default).entry))) (H' := [rwR cItem l, rwB cItem acc, bxB 4 (rowE wI 4 la), bxB 109 (entC ((acc.getD j default).entry))]) rfl rfl rfl (by kernel_rfl) (by kernel_rfl) ?_
    refine r_doneN ?_
    refine x_then ?_
    refine c_seq ?_
    refine c_seq ?_
    refine c_reg ?_
    refine r_fieldAddr (b := 3) (o := 0) (n := 0) (o' := 0) rfl rfl rfl rfl rfl ?_
    refine r_load (p := pt 3 0) (v := .int .i64 ((((acc.getD j default).entry).kind))) rfl rfl rfl (by kernel_rfl) ?_
    by_cases h5 : ((((acc.getD j default).entry).kind)) ≠ 1
    · skip
      refine r_bin (v := .bool true) (vx := .int .i64 ((((acc.getD j default).entry).kind))) (vy := .int .i64 1) rfl rfl rfl rfl (neq_t (by omega)) ?_
      refine r_doneN ?_
      refine x_then ?_
      refine c_true rfl ?_
      refine c_exit ?_
      refine x_thenE ?_
      refine x_block rfl ?_
      refine x_then ?_
      refine c_reg ?_
      refine r_move (v := .int .i64 (j : Nat)) rfl rfl rfl ?_
      refine r_bin (v := .int .i64 ((j : Nat) + 1)) (vx := .int .i64 (j : Nat)) (vy := .int .i64 1) rfl rfl rfl rfl (bin_add (by omega) (by omega) (by omega)) ?_
      refine r_assign (v := .int .i64 ((j : Nat) + 1)) rfl rfl rfl ?_
      refine r_doneN ?_
      refine x_round ⟨((j + 1), la), ⟨lastOK_next hla, by omega⟩, by show m - (j + 1) < m - j; omega, ?_⟩
      refine weak_to (n := 3) rfl ?_ (by kernel_rfl) (by kernel_rfl)
      repeat (first | exact trivial | refine ⟨.inl rfl, ?_⟩ | refine ⟨.inr ⟨rfl, rfl⟩, ?_⟩ | refine ⟨.inr ⟨congrArg (Value.int .i64) (by first | omega | (dsimp only; omega)), rfl⟩, ?_⟩)
    refine r_bin (v := .bool false) (vx := .int .i64 ((((acc.getD j default).entry).kind))) (vy := .int .i64 1) rfl rfl rfl rfl (neq_f (by omega)) ?_
    refine r_doneN ?_
    refine x_then ?_
    refine c_false rfl ?_
    refine c_skip ?_
    refine x_then ?_
    refine c_seq ?_
    have hf := old_facts hg (show j < acc.length by omega) hla (by omega)
    obtain ⟨hf1, hf2, hf3, hf4⟩ := hf
    refine c_reg ?_
    refine r_move (v := slv 1 0 m m) rfl rfl rfl ?_
    refine r_fieldAddr (b := 3) (o := 0) (n := 1) (o' := 1) rfl rfl rfl rfl rfl ?_
    refine r_load (p := pt 3 1) (v := .int .i64 ((((acc.getD j default).entry).client))) rfl rfl rfl (by kernel_rfl) ?_
    refine r_fieldAddr (b := 3) (o := 0) (n := 2) (o' := 2) rfl rfl rfl rfl rfl ?_
    refine r_load (p := pt 3 2) (v := .int .i64 ((((acc.getD j default).entry).seq))) rfl rfl rfl (by kernel_rfl) ?_
    refine r_callN (e := [some (1, 0)]) (nid := 0) (find_c (G := G) acc m m ha (by omega) (by omega) ((((acc.getD j default).entry).client)) ((((acc.getD j default).entry).seq)) hf3) (vals := [slv 1 0 m m, .int .i64 ((((acc.getD j default).entry).client)), .int .i64 ((((acc.getD j default).entry).seq))]) (v := .tuple #[.int .i64 (j : Nat), .bool true]) (H' := [rwR cItem l, rwB cItem acc, bxB 4 (rowE wI 4 la), bxB 109 (entC ((acc.getD j default).entry))]) rfl rfl rfl rfl rfl rfl rfl ⟨⟨⟨rfl, rfl, rfl, by first | omega | exact Nat.le_refl _, by first | omega | exact Nat.le_refl _⟩, rfl, rfl, trivial⟩, ⟨(emb_rwB rfl), trivial⟩, rfl, rfl, rfl⟩ (by kernel_rfl) (by kernel_rfl) ?_
    refine r_move (v := .tuple #[.int .i64 (j : Nat), .bool true]) rfl rfl rfl ?_
    refine r_extract (vs := #[.int .i64 (j : Nat), .bool true]) (v := .int .i64 (j : Nat)) rfl rfl rfl rfl ?_
    refine r_extract (vs := #[.int .i64 (j : Nat), .bool true]) (v := .bool true) rfl rfl rfl rfl ?_
    refine r_assign (v := .int .i64 (j : Nat)) rfl rfl rfl ?_
    refine r_assign (v := .bool true) rfl rfl rfl ?_
    refine r_doneN ?_
    refine x_then ?_
    refine c_seq ?_
    refine c_seq ?_
    refine c_draw (by kernel_rfl) ?_
    refine r_fieldAddr (b := 3) (o := 0) (n := 1) (o' := 1) rfl rfl rfl rfl rfl ?_
    refine r_load (p := pt 3 1) (v := .int .i64 ((((acc.getD j default).entry).client))) rfl rfl rfl (by kernel_rfl) ?_
    refine r_bin (v := .bool false) (vx := .int .i64 ((((acc.getD j default).entry).client))) (vy := .int .i64 1) rfl rfl rfl rfl (lss_f (by omega)) ?_
    refine r_move (v := .bool false) rfl rfl rfl ?_
    refine r_fieldAddr (b := 3) (o := 0) (n := 1) (o' := 1) rfl rfl rfl rfl rfl ?_
    refine r_load (p := pt 3 1) (v := .int .i64 ((((acc.getD j default).entry).client))) rfl rfl rfl (by kernel_rfl) ?_
    refine r_bin (v := .bool false) (vx := .int .i64 ((((acc.getD j default).entry).client))) (vy := .int .i64 3) rfl rfl rfl rfl (gtr_f (by omega)) ?_
    refine r_pick (v := .bool false) rfl rfl rfl ?_
    refine r_move (v := .bool false) rfl rfl rfl ?_
    refine r_fieldAddr (b := 3) (o := 0) (n := 2) (o' := 2) rfl rfl rfl rfl rfl ?_
    refine r_load (p := pt 3 2) (v := .int .i64 ((((acc.getD j default).entry).seq))) rfl rfl rfl (by kernel_rfl) ?_
    refine r_fieldAddr (b := 3) (o := 0) (n := 1) (o' := 1) rfl rfl rfl rfl rfl ?_
    refine r_load (p := pt 3 1) (v := .int .i64 ((((acc.getD j default).entry).client))) rfl rfl rfl (by kernel_rfl) ?_
    refine r_idxA (b := 2) (o := 0) (j := (((((acc.getD j default).entry).client)).toNat)) (n := 4) (sz := 1) (i := ((((acc.getD j default).entry).client))) (k := .i64) rfl rfl rfl rfl rfl (by omega) (by omega) (by omega) ?_
    refine r_load (p := pt 2 (((((acc.getD j default).entry).client)).toNat)) (v := .int .i64 ((la (((((acc.getD j default).entry).client)).toNat)))) rfl rfl rfl (loadA_row (blk := bxB 4 (rowE wI 4 la)) (i := (((((acc.getD j default).entry).client)).toNat)) (enc := wI) (n := 4) (w := la) rfl rfl rfl (by omega) fun _ => rfl) ?_
    refine r_bin (v := .bool false) (vx := .int .i64 ((((acc.getD j default).entry).seq))) (vy := .int .i64 ((la (((((acc.getD j default).entry).client)).toNat)))) rfl rfl rfl rfl (leq_f (by omega)) ?_
    refine r_pick (v := .bool false) rfl rfl rfl ?_
    refine r_move (v := .bool false) rfl rfl rfl ?_
    refine r_move (v := .bool true) rfl rfl rfl ?_
    refine r_un (v := .bool false) (vx := .bool true) rfl rfl rfl un_not ?_
    refine r_pick (v := .bool false) rfl rfl rfl ?_
    refine r_move (v := .bool false) rfl rfl rfl ?_
    refine r_move (v := .int .i64 (j : Nat)) rfl rfl rfl ?_
    refine r_move (v := .int .i64 (j : Nat)) rfl rfl rfl ?_
    refine r_bin (v := .bool false) (vx := .int .i64 (j : Nat)) (vy := .int .i64 (j : Nat)) rfl rfl rfl rfl (neq_f (by omega)) ?_
    refine r_pick (v := .bool false) rfl rfl rfl ?_
    refine r_doneD (drawnT_ok [[], [0], [0, 1], [0, 1, 2], [0, 1, 2, 3], [0, 1, 2, 3, 4], [0, 1, 2, 3, 4, 5], [0, 1, 2, 3, 4, 5, 6], [0, 1, 2, 3, 4, 5, 6, 7], [0, 1, 2, 3, 4, 5, 6, 7, 8], [0, 1, 2, 3, 4, 5, 6, 7, 8, 9], [0, 1, 2, 3, 4, 5, 6, 7, 8], [0, 1, 2, 3, 4, 5, 6, 7, 8, 11], [0, 1, 2, 3, 4, 5, 6, 7, 8, 11, 12], [0, 1, 2, 3, 4, 5, 6, 7, 8, 11, 12, 13], [0, 1, 2, 3, 4, 5, 6, 7, 8, 9, 10, 11, 12, 13, 14], [0, 1, 2, 3, 4, 5, 6, 7, 8, 9, 10, 11, 12, 13, 14, 15], [0, 1, 2, 3, 4, 5, 6, 7, 8, 9, 10, 11, 12, 13, 14, 15, 16], [0, 1, 2, 3, 4, 5, 6, 7, 8, 9, 10, 11, 12, 13, 14, 15, 16, 17], [0, 1, 2, 3, 4, 5, 6, 7, 8, 9, 10, 11, 12, 13, 14, 15, 16, 17, 18], [0, 1, 2, 3, 4, 5, 6, 7, 8, 9, 10, 11, 12, 13, 14, 15, 16, 17, 18, 19], [0, 1, 2, 3, 4, 5, 6, 7, 8, 9, 10, 11, 12, 13, 14, 15, 16, 17, 18, 19, 20], [0, 1, 2, 3, 4, 5, 6, 7, 8, 9, 10, 11, 12, 13, 14, 15, 16, 17, 18, 19, 20, 21], [0, 1, 2, 3, 4, 5, 6, 7, 8, 9, 10, 11, 12, 13, 14, 15, 16, 17, 18, 19, 20, 21], [0, 1, 2, 3, 4, 5, 6, 7, 8, 9, 10, 11, 12, 13, 14, 15, 16, 17, 18, 19, 20, 21, 22, 23], [0, 1, 2, 3, 4, 5, 6, 7, 8, 9, 10, 11, 12, 13, 14, 15, 16, 17, 18, 19, 20, 21, 22, 23, 24]] (by kernel_rfl) (by kernel_rfl)) ?_
    refine x_then ?_
    refine c_false rfl ?_
    refine c_skip ?_
    refine x_then ?_
    refine c_reg ?_
    refine r_fieldAddr (b := 3) (o := 0) (n := 1) (o' := 1) rfl rfl rfl rfl rfl ?_
    refine r_load (p := pt 3 1) (v := .int .i64 ((((acc.getD j default).entry).client))) rfl rfl rfl (by kernel_rfl) ?_
    refine r_fieldAddr (b := 3) (o := 0) (n := 2) (o' := 2) rfl rfl rfl rfl rfl ?_
    refine r_load (p := pt 3 2) (v := .int .i64 ((((acc.getD j default).entry).seq))) rfl rfl rfl (by kernel_rfl) ?_
    refine r_idxA (b := 2) (o := 0) (j := (((((acc.getD j default).entry).client)).toNat)) (n := 4) (sz := 1) (i := ((((acc.getD j default).entry).client))) (k := .i64) rfl rfl rfl rfl rfl (by omega) (by omega) (by omega) ?_
    refine r_store (p := pt 2 (((((acc.getD j default).entry).client)).toNat)) (v := .int .i64 ((((acc.getD j default).entry).seq))) (b := 2) (blk := bxB 4 (rowE wI 4 (updN la (((((acc.getD j default).entry).client)).toNat) ((((acc.getD j default).entry).seq))))) (H' := [rwR cItem l, rwB cItem acc, bxB 4 (rowE wI 4 (updN la (((((acc.getD j default).entry).client)).toNat) ((((acc.getD j default).entry).seq)))), bxB 109 (entC ((acc.getD j default).entry))]) rfl rfl rfl (storeD_row (blk := bxB 4 (rowE wI 4 la)) (i := (((((acc.getD j default).entry).client)).toNat)) (enc := wI) (n := 4) (w := la) (x := ((((acc.getD j default).entry).seq))) rfl rfl rfl rfl rfl (by omega) rfl rfl) (by kernel_rfl) ?_
    refine r_doneN ?_
    refine x_blockN ?_
    refine x_then ?_
    refine c_reg ?_
    refine r_move (v := .int .i64 (j : Nat)) rfl rfl rfl ?_
    refine r_bin (v := .int .i64 ((j : Nat) + 1)) (vx := .int .i64 (j : Nat)) (vy := .int .i64 1) rfl rfl rfl rfl (bin_add (by omega) (by omega) (by omega)) ?_
    refine r_assign (v := .int .i64 ((j : Nat) + 1)) rfl rfl rfl ?_
    refine r_doneN ?_
    refine x_round ⟨((j + 1), (updN la (((((acc.getD j default).entry).client)).toNat) ((((acc.getD j default).entry).seq)))), ⟨lastOK_put hla (by omega) (by omega) (by omega) (by omega) (by omega), by omega⟩, by show m - (j + 1) < m - j; omega, ?_⟩
    refine weak_to (n := 3) rfl ?_ (by kernel_rfl) (by kernel_rfl)
    repeat (first | exact trivial | refine ⟨.inl rfl, ?_⟩ | refine ⟨.inr ⟨rfl, rfl⟩, ?_⟩ | refine ⟨.inr ⟨congrArg (Value.int .i64) (by first | omega | (dsimp only; omega)), rfl⟩, ?_⟩)
  refine r_bin (v := .bool false) (vx := .int .i64 (j : Nat)) (vy := .int .i64 (m : Nat)) rfl rfl rfl rfl (lss_f (by omega)) ?_
  refine r_doneN ?_
  refine x_then ?_
  refine c_false rfl ?_
  refine c_exit ?_
  refine x_thenE ?_
  refine x_leaveE ?_
  refine x_block rfl ?_
  refine x_then ?_
  refine c_seq ?_
  refine c_reg ?_
  refine r_callP (finds_ok (G := G)) (vals := []) (res' := .bool true) rfl rfl rfl rfl rfl rfl ?_
  refine r_move (v := .bool true) rfl rfl rfl ?_
  refine r_move (v := slv 1 0 m m) rfl rfl rfl ?_
  refine r_callN (e := [some (1, 0)]) (nid := 0) (check_c (G := G) acc m m ha (by omega) (by omega) (z := 0) (if_pos hg.1)) (vals := [slv 1 0 m m]) (v := .int .i64 0) (H' := [rwR cItem l, rwB cItem acc, bxB 4 (rowE wI 4 la), hole]) rfl rfl rfl rfl rfl rfl rfl ⟨⟨⟨rfl, rfl, rfl, by first | omega | exact Nat.le_refl _, by first | omega | exact Nat.le_refl _⟩, trivial⟩, ⟨(emb_rwB rfl), trivial⟩, rfl, rfl, rfl⟩ rfl (by kernel_rfl) ?_
  refine r_bin (v := .bool true) (vx := .int .i64 0) (vy := .int .i64 0) rfl rfl rfl rfl (eql_t (by omega)) ?_
  refine r_pick (v := .bool true) rfl rfl rfl ?_
  refine r_assign (v := .bool true) rfl rfl rfl ?_
  refine r_doneN ?_
  refine x_then ?_
  refine c_ret ?_
  refine x_end ?_
  exact end_map [0] (v := .bool true) rfl (by kernel_rfl) rfl rfl (by decide) (by simp [keptB, rwR, cItem]) rfl
end Go.Flat
