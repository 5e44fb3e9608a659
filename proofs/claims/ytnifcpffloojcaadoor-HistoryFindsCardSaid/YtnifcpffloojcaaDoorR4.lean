/- Walks and plain laws: what each theorem says, within the bounds that it names. -/
import Derived.Test.YtnifcpffloojcaaDoorR3
import Derived.Test.YtnifcpffloojcaaDoorK10
set_option linter.unusedVariables false
set_option linter.unusedSimpArgs false
set_option maxRecDepth 20000
namespace Go.Flat
open Go.Proofs
variable {G : Glob}
section
variable (kk : Nat → BitVec 32)
theorem splitN_mid {n m : Nat} (h2 : 2 ≤ n) (h1 : splitN n < m) (hm : m ≤ n) : splitN m = splitN n := by
  obtain ⟨p1, p2⟩ := splitN_pos h2
  have e := splitN_eq h2
  rw [splitN_eq (n := m) (by omega), e]
  congr 1
  have g1 := Nat.log2_self_le (n := n - 1) (by omega)
  have g3 := Nat.lt_log2_self (n := n - 1)
  rw [← e] at g1
  have := (Nat.log2_lt (n := m - 1) (k := (n - 1).log2 + 1) (by omega)).2 (by omega)
  have := (Nat.le_log2 (n := m - 1) (k := (n - 1).log2) (by omega)).2 (by omega)
  omega
theorem init_app {α : Type} (l : List α) (x d : α) : (l ++ [x]).take ((l ++ [x]).length - 1) = l ∧ (l ++ [x]).getD ((l ++ [x]).length - 1) d = x ∧ 0 < (l ++ [x]).length := by
  refine ⟨by simp, ?_, by simp⟩
  rw [List.getD_eq_getElem?_getD]; simp
theorem getD_takeD {l : List D} {i k : Nat} (h : i < k) : (l.take k).getD i d0 = l.getD i d0 := by
  rw [List.getD_eq_getElem?_getD, List.getD_eq_getElem?_getD, List.getElem?_take, if_pos h]
theorem getD_dropD {l : List D} {i k : Nat} (h : k ≤ i) : (l.drop k).getD (i - k) d0 = l.getD i d0 := by
  rw [List.getD_eq_getElem?_getD, List.getD_eq_getElem?_getD, List.getElem?_drop]; congr 2; omega
theorem finds_way : ∀ (n : Nat) (l : List D) (i : Nat), l.length = n → i < n → ∃ w, wayF n i (inclP kk l i) = some w ∧ (knA kk (l.getD i d0) w).getD 0 d0 = rootI kk l := by
  intro n
  induction n using Nat.strongRecOn with
  | ind n ih =>
    intro l i hl hi
    by_cases h2 : 2 ≤ n
    · obtain ⟨p1, p2⟩ := splitN_pos h2
      rw [rootI_two kk (by omega), hl]
      by_cases hk : i < splitN n
      · rw [inclP_lo kk (by omega) (by rw [hl]; exact hk), hl]
        obtain ⟨q1, q2, q3⟩ := init_app (inclP kk (l.take (splitN n)) i) (rootI kk (l.drop (splitN n))) d0
        obtain ⟨w, w1, w2⟩ := ih (splitN n) p2 (l.take (splitN n)) i (by rw [List.length_take]; omega) hk
        rw [wayF_lo h2 q3 hk, q1, q2, w1]
        refine ⟨_, rfl, ?_⟩
        rw [getD_takeD hk] at w2
        simp only [knA, w2]
        rfl
      · rw [inclP_hi kk (by omega) (by rw [hl]; omega), hl]
        obtain ⟨q1, q2, q3⟩ := init_app (inclP kk (l.drop (splitN n)) (i - splitN n)) (rootI kk (l.take (splitN n))) d0
        obtain ⟨w, w1, w2⟩ := ih (n - splitN n) (by omega) (l.drop (splitN n)) (i - splitN n) (by rw [List.length_drop]; omega) (by omega)
        rw [wayF_hi h2 q3 (by omega), q1, q2, w1]
        refine ⟨_, rfl, ?_⟩
        rw [getD_dropD (by omega)] at w2
        simp only [knA, w2]
        rfl
    · obtain rfl : n = 1 := by omega
      obtain rfl : i = 0 := by omega
      rw [inclP_one kk 0 (by omega), wayF_one _ _ (by decide)]
      refine ⟨[], rfl, ?_⟩
      match l, hl with
      | [x], _ => rfl
theorem finds_incl {l : List D} {n i : Nat} (hl : l.length = n) (hi : i < n) (hn : n ≤ 100000) : inclE kk (rootI kk l) (l.getD i d0) (n : Nat) (i : Nat) (inclP kk l i) = 0 := by
  obtain ⟨w, w1, w2⟩ := finds_way kk n l i hl hi
  unfold inclE
  rw [if_neg (by omega), show ((n : Int)).toNat = n from rfl, show ((i : Int)).toNat = i from rfl, w1]
  dsimp only
  rw [w2, sameBd_refl]
  rfl
theorem finds_both : ∀ (n : Nat) (l : List D) (m : Nat) (kn : Bool) (old : D), l.length = n → 1 ≤ m → m ≤ n → (kn = true → old = rootI kk (l.take m)) → bothF kk old m n kn (consR kk l m kn) = some (rootI kk (l.take m), rootI kk l) := by
  intro n
  induction n using Nat.strongRecOn with
  | ind n ih =>
    intro l m kn old hl h1 hm ho
    rcases Nat.lt_or_ge m n with hlt | hge
    · obtain ⟨p1, p2⟩ := splitN_pos (n := n) (by omega)
      rw [rootI_two kk (ds := l) (by omega), hl]
      by_cases hk : m ≤ splitN n
      · rw [consR_lo kk kn h1 (by omega) (by rw [hl]; exact hk), hl]
        obtain ⟨q1, q2, q3⟩ := init_app (consR kk (l.take (splitN n)) m kn) (rootI kk (l.drop (splitN n))) d0
        rw [bothF_lo kk old kn hlt h1 (by omega) hk, q1, q2]
        have ht : (l.take (splitN n)).take m = l.take m := by rw [List.take_take, Nat.min_eq_left hk]
        rw [ih (splitN n) p2 (l.take (splitN n)) m kn old (by rw [List.length_take]; omega) h1 hk (by rw [ht]; exact ho), ht]
        rfl
      · rw [consR_hi kk kn (by omega) (by rw [hl]; omega), hl]
        obtain ⟨q1, q2, q3⟩ := init_app (consR kk (l.drop (splitN n)) (m - splitN n) false) (rootI kk (l.take (splitN n))) d0
        rw [bothF_hi kk old kn hlt h1 (by omega) (by omega), q1, q2]
        rw [ih (n - splitN n) (by omega) (l.drop (splitN n)) (m - splitN n) false old (by rw [List.length_drop]; omega) (by omega) (by omega) (fun h => by cases h)]
        have hlm : (l.take m).length = m := by rw [List.length_take]; omega
        rw [rootI_two kk (ds := l.take m) (by omega), hlm, splitN_mid (by omega) (by omega) hm, List.take_take, Nat.min_eq_left (by omega), List.drop_take]
        rfl
    · obtain rfl : m = n := by omega
      rw [consR_end kk kn (by omega)]
      have ht : l.take m = l := by rw [← hl, List.take_length]
      rw [ht] at ho ⊢
      cases kn with
      | true => rw [if_pos rfl, bothF_self, ho rfl]; rfl
      | false => rw [if_neg (by decide), bothF_end kk old m (by simp)]; rfl
theorem consP_R (l : List D) (m : Nat) : consP kk l m = consR kk l m true := rfl
theorem goes_zero (n : Int) (l : List D) (h0 : 0 ≤ n) (h1 : n ≤ 100000) (hl : l.length = n.toNat) : goesE kk 0 (shaOf kk []) n (rootI kk l) [] = 0 := by
  unfold goesE
  rw [if_neg (by show ¬ (n < 0 ∨ 100000 < n ∨ (0 : Int) < 0 ∨ n < 0 ∨ ((0 : Int) = 0 ∧ 0 < 0)); omega), if_pos rfl]
  by_cases h : n = 0
  · subst h
    obtain rfl : l = [] := List.eq_nil_of_length_eq_zero hl
    rw [if_neg]
    rw [show rootI kk [] = shaOf kk [] from rfl, sameBd_refl]; simp
  · rw [if_neg]
    rw [sameBd_refl]; simp [h]
theorem finds_goes {l : List D} {n m : Nat} (hl : l.length = n) (h1 : 1 ≤ m) (hm : m ≤ n) (hn : n ≤ 100000) : goesE kk (m : Nat) (rootI kk (l.take m)) (n : Nat) (rootI kk l) (consP kk l m) = 0 := by
  unfold goesE
  rw [if_neg (by omega), if_neg (by omega), show ((n : Int)).toNat = n from rfl, show ((m : Int)).toNat = m from rfl, consP_R, finds_both kk n l m true _ hl h1 hm (fun _ => rfl)]
  dsimp only
  rw [sameBd_refl, sameBd_refl]
  rfl

end
theorem goodF_atI : ∀ (l : List Item) (ep : Int) (i : Nat), goodF ep l = true → i < l.length → rightI (l.getD i default)
  | [], _, i, _, h => absurd h (by simp)
  | x :: l, ep, 0, h, _ => by
    rw [goodF, Bool.and_eq_true, Bool.and_eq_true] at h
    exact of_decide_eq_true h.1.1
  | x :: l, ep, i + 1, h, hi => by
    rw [goodF, Bool.and_eq_true] at h
    exact goodF_atI l x.epoch i h.2 (by simpa using hi)
theorem acL_get (kk : Nat → BitVec 32) (l : List Item) : ∀ (k i : Nat), i < k → (acL kk l k).getD i d0 = (leafI kk (l.getD i default)).1
  | 0, i, h => by omega
  | k + 1, i, h => by
    rw [acL]
    rcases Nat.lt_or_ge i k with q | q
    · rw [List.getD_eq_getElem?_getD, List.getElem?_append_left (by rw [acL_len]; exact q), ← List.getD_eq_getElem?_getD]
      exact acL_get kk l k i q
    · obtain rfl : i = k := by omega
      rw [List.getD_eq_getElem?_getD, List.getElem?_append_right (by rw [acL_len]; exact Nat.le_refl _), acL_len, Nat.sub_self]; rfl
theorem acL_take (kk : Nat → BitVec 32) (l : List Item) : ∀ (k m : Nat), m ≤ k → (acL kk l k).take m = acL kk l m
  | 0, m, h => by rw [Nat.le_zero.1 h]; rfl
  | k + 1, m, h => by
    rcases Nat.lt_or_ge k m with q | q
    · obtain rfl : m = k + 1 := by omega
      rw [List.take_of_length_le (by rw [acL_len]; exact Nat.le_refl _)]
    · rw [acL, List.take_append_of_le_length (by rw [acL_len]; exact q), acL_take kk l k m q]
theorem firL_ok {kk : Nat → BitVec 32} {l : List Item} {n : Int} (h : (firL kk l n).2 = 0) : rightL l ∧ 0 ≤ n ∧ n ≤ l.length ∧ firL kk l n = (acL kk l n.toNat, 0) := by
  unfold firL at h ⊢
  split at h
  · rename_i h1
    split at h
    · rename_i h2
      exact ⟨h1, h2.1, h2.2, by rw [if_pos h1, if_pos h2]⟩
    · exact absurd h (by decide)
  · exact absurd h (by decide)
theorem leaf_in {kk : Nat → BitVec 32} {l : List Item} {i : Nat} (h : rightL l) (hi : i < l.length) : (leafI kk (l.getD i default)).2 = 0 := by
  have : rightI (l.getD i default) := goodF_atI l 0 i h.2 hi
  rw [show leafI kk (l.getD i default) = (lfT kk (strOf (putI (l.getD i default)).1), 0) from if_pos this]
theorem finds_f1 {kk : Nat → BitVec 32} {l : List Item} {n i : Int} (h : (incH kk l n i).2 = 0) : 0 ≤ i ∧ i < l.length ∧ (rootH kk l n).2 = 0 ∧ (leafI kk (l.getD i.toNat default)).2 = 0 ∧ inclE kk (rootH kk l n).1 (leafI kk (l.getD i.toNat default)).1 n i (incH kk l n i).1 = 0 := by
  by_cases h0 : (firL kk l n).2 = 0
  · obtain ⟨g1, g2, g3, g4⟩ := firL_ok h0
    have hlen : (firL kk l n).1.length = n.toNat := by rw [g4]; exact acL_len _ _ _
    by_cases h1 : 0 ≤ i ∧ i < (firL kk l n).1.length
    · rw [hlen] at h1
      have er : rootH kk l n = (rootI kk (acL kk l n.toNat), 0) := by unfold rootH; rw [if_pos h0, g4]
      have ei : incH kk l n i = (inclP kk (acL kk l n.toNat) i.toNat, 0) := by unfold incH; rw [if_pos h0, hlen, if_pos h1, g4]
      rw [er, ei]
      refine ⟨h1.1, by omega, rfl, leaf_in g1 (by omega), ?_⟩
      have := g1.1
      have hf := finds_incl kk (l := acL kk l n.toNat) (n := n.toNat) (i := i.toNat) (acL_len _ _ _) (by omega) (by omega)
      rw [acL_get kk l n.toNat i.toNat (by omega), show ((n.toNat : Nat) : Int) = n by omega, show ((i.toNat : Nat) : Int) = i by omega] at hf
      exact hf
    · rw [show incH kk l n i = ([], 20) from by unfold incH; rw [if_pos h0, if_neg h1]] at h
      exact absurd h (by decide)
  · rw [show incH kk l n i = ([], (firL kk l n).2) from by unfold incH; rw [if_neg h0]] at h
    exact absurd h h0
theorem finds_f2 {kk : Nat → BitVec 32} {l : List Item} {m n : Int} (h : (conH kk l m n).2 = 0) : (rootH kk l n).2 = 0 ∧ (rootH kk l m).2 = 0 ∧ goesE kk m (rootH kk l m).1 n (rootH kk l n).1 (conH kk l m n).1 = 0 := by
  by_cases h0 : (firL kk l n).2 = 0
  · obtain ⟨g1, g2, g3, g4⟩ := firL_ok h0
    have hlen : (firL kk l n).1.length = n.toNat := by rw [g4]; exact acL_len _ _ _
    have h2000 := g1.1
    by_cases h1 : 0 ≤ m ∧ m ≤ (firL kk l n).1.length
    · rw [hlen] at h1
      have er : rootH kk l n = (rootI kk (acL kk l n.toNat), 0) := by unfold rootH; rw [if_pos h0, g4]
      have fm : firL kk l m = (acL kk l m.toNat, 0) := by unfold firL; rw [if_pos g1, if_pos ⟨h1.1, by omega⟩]
      have em : rootH kk l m = (rootI kk (acL kk l m.toNat), 0) := by unfold rootH; rw [fm, if_pos rfl]
      by_cases hz : m = 0
      · have ec : conH kk l m n = ([], 0) := by unfold conH; rw [if_pos h0, hlen, if_pos h1, if_pos hz]
        rw [er, em, ec]
        subst hz
        refine ⟨rfl, rfl, ?_⟩
        exact goes_zero kk n (acL kk l n.toNat) g2 (by omega) (acL_len _ _ _)
      · have ec : conH kk l m n = (consP kk (acL kk l n.toNat) m.toNat, 0) := by unfold conH; rw [if_pos h0, hlen, if_pos h1, if_neg hz, g4]
        rw [er, em, ec]
        refine ⟨rfl, rfl, ?_⟩
        have hf := finds_goes kk (l := acL kk l n.toNat) (n := n.toNat) (m := m.toNat) (acL_len _ _ _) (by omega) (by omega) (by omega)
        rw [acL_take kk l n.toNat m.toNat (by omega), show ((n.toNat : Nat) : Int) = n by omega, show ((m.toNat : Nat) : Int) = m by omega] at hf
        exact hf
    · rw [show conH kk l m n = ([], 21) from by unfold conH; rw [if_pos h0, if_neg h1]] at h
      exact absurd h (by decide)
  · rw [show conH kk l m n = ([], (firL kk l n).2) from by unfold conH; rw [if_neg h0]] at h
    exact absurd h h0
theorem HistoryFinds_ok (kk : Nat → BitVec 32) (hG : G 3 = some (rowE w32 64 kk)) (hG1 : G 1 = some (rowE u8N 64 dbF)) (l : List Item) (c : Nat) (hl : l.length ≤ c) (hcc : c ≤ 9223372036854775807) (m n i : Int) (bm : -9223372036854775808 ≤ m ∧ m ≤ 9223372036854775807) (bn : -9223372036854775808 ≤ n ∧ n ≤ 9223372036854775807) (bi : -9223372036854775808 ≤ i ∧ i ≤ 9223372036854775807) : CallL Tryd.prog G 8 [slv 0 0 l.length c, .int .i64 m, .int .i64 n, .int .i64 i] [rwR cItem l] (.bool true) [rwR cItem l] := by
  refine walk (fn := Tryd.f8) (nt := 107) rfl rfl rfl rfl ?_
  refine c_hole 5 (H' := [rwR cItem l, hole, hole, hole, hole, hole]) rfl ?_
  refine c_seq (c_reg ?_)
  refine r_assign (v := .bool false) rfl rfl rfl ?_
  refine r_doneN (x_then (c_seq (c_seq (c_reg ?_))))
  refine r_move (v := slv 0 0 l.length c) rfl rfl rfl ?_
  refine r_callN (e := [some (0, 0)]) (nid := 0) (refBig_ok (G := G) l l.length c rfl (by omega) (by omega)) (vals := [slv 0 0 l.length c]) (v := .bool (bigB l)) (H' := [rwR cItem l, hole, hole, hole, hole, hole]) rfl rfl rfl rfl rfl rfl rfl ⟨⟨⟨rfl, rfl, rfl, by first | omega | exact Nat.le_refl _, by first | omega | exact Nat.le_refl _⟩, trivial⟩, ⟨(emb_rwR rfl), trivial⟩, rfl, rfl, rfl⟩ rfl (by kernel_rfl) ?_
  refine r_doneN (x_then ?_)
  rcases Bool.eq_false_or_eq_true (bigB l) with h1 | h1
  refine c_true (congrArg Value.bool h1) ?_
  refine c_seq (c_reg ?_)
  refine r_assign (v := .bool true) rfl rfl rfl ?_
  refine r_doneN (x_then (c_ret (x_thenR (x_end ?_))))
  exact end_map [0] (v := .bool true) rfl (by kernel_rfl) rfl rfl (by decide) (by simp [keptB, rwR, cItem]) rfl
  refine c_false (congrArg Value.bool h1) ?_
  refine c_skip (x_then (c_seq ?_))
  have hn60 : l.length ≤ 60 := bigB_len (by assumption)
  refine c_reg ?_
  refine r_move (v := slv 0 0 l.length c) rfl rfl rfl ?_
  refine r_move (v := .int .i64 n) rfl rfl rfl ?_
  refine r_move (v := .int .i64 i) rfl rfl rfl ?_
  have hpl12 := incH_len kk l n i
  refine r_callN (e := [some (0, 0)]) (nid := 1) (HIncl_ok (G := G) kk hG hG1 l l.length c rfl (by omega) (by omega) n i) (vals := [slv 0 0 l.length c, .int .i64 n, .int .i64 i]) (v := .tuple #[slv 1 0 ((incH kk l n i).1.length) ((incH kk l n i).1.length), .int .i64 (((incH kk l n i).2))]) (H' := [rwR cItem l, dsB ((incH kk l n i).1), hole, hole, hole, hole]) rfl rfl rfl rfl rfl rfl rfl ⟨⟨⟨rfl, rfl, rfl, by first | omega | exact Nat.le_refl _, by first | omega | exact Nat.le_refl _⟩, rfl, rfl, trivial⟩, ⟨(emb_rwR rfl), trivial⟩, rfl, rfl, rfl⟩ (by kernel_rfl) (by kernel_rfl) ?_
  refine r_move (v := .tuple #[slv 1 0 ((incH kk l n i).1.length) ((incH kk l n i).1.length), .int .i64 (((incH kk l n i).2))]) rfl rfl rfl ?_
  refine r_extract (vs := #[slv 1 0 ((incH kk l n i).1.length) ((incH kk l n i).1.length), .int .i64 (((incH kk l n i).2))]) (v := slv 1 0 ((incH kk l n i).1.length) ((incH kk l n i).1.length)) rfl rfl rfl rfl ?_
  refine r_extract (vs := #[slv 1 0 ((incH kk l n i).1.length) ((incH kk l n i).1.length), .int .i64 (((incH kk l n i).2))]) (v := .int .i64 (((incH kk l n i).2))) rfl rfl rfl rfl ?_
  refine r_assign (v := slv 1 0 ((incH kk l n i).1.length) ((incH kk l n i).1.length)) rfl rfl rfl ?_
  refine r_assign (v := .int .i64 (((incH kk l n i).2))) rfl rfl rfl ?_
  refine r_doneN (x_then (c_seq (c_reg ?_)))
  refine r_move (v := slv 0 0 l.length c) rfl rfl rfl ?_
  refine r_move (v := .int .i64 m) rfl rfl rfl ?_
  refine r_move (v := .int .i64 n) rfl rfl rfl ?_
  have hpl13 := conH_len kk l m n
  refine r_callN (e := [some (0, 0)]) (nid := 2) (HCons_ok (G := G) kk hG hG1 l l.length c rfl (by omega) (by omega) m n) (vals := [slv 0 0 l.length c, .int .i64 m, .int .i64 n]) (v := .tuple #[slv 2 0 ((conH kk l m n).1.length) ((conH kk l m n).1.length), .int .i64 (((conH kk l m n).2))]) (H' := [rwR cItem l, dsB ((incH kk l n i).1), dsB ((conH kk l m n).1), hole, hole, hole]) rfl rfl rfl rfl rfl rfl rfl ⟨⟨⟨rfl, rfl, rfl, by first | omega | exact Nat.le_refl _, by first | omega | exact Nat.le_refl _⟩, rfl, rfl, trivial⟩, ⟨(emb_rwR rfl), trivial⟩, rfl, rfl, rfl⟩ (by kernel_rfl) (by kernel_rfl) ?_
  refine r_move (v := .tuple #[slv 2 0 ((conH kk l m n).1.length) ((conH kk l m n).1.length), .int .i64 (((conH kk l m n).2))]) rfl rfl rfl ?_
  refine r_extract (vs := #[slv 2 0 ((conH kk l m n).1.length) ((conH kk l m n).1.length), .int .i64 (((conH kk l m n).2))]) (v := slv 2 0 ((conH kk l m n).1.length) ((conH kk l m n).1.length)) rfl rfl rfl rfl ?_
  refine r_extract (vs := #[slv 2 0 ((conH kk l m n).1.length) ((conH kk l m n).1.length), .int .i64 (((conH kk l m n).2))]) (v := .int .i64 (((conH kk l m n).2))) rfl rfl rfl rfl ?_
  refine r_assign (v := slv 2 0 ((conH kk l m n).1.length) ((conH kk l m n).1.length)) rfl rfl rfl ?_
  refine r_assign (v := .int .i64 (((conH kk l m n).2))) rfl rfl rfl ?_
  refine r_doneN (x_then (c_seq (c_reg ?_)))
  refine r_move (v := slv 0 0 l.length c) rfl rfl rfl ?_
  refine r_move (v := .int .i64 n) rfl rfl rfl ?_
  refine r_callN (e := [some (0, 0)]) (nid := 0) (HRoot_ok (G := G) kk hG hG1 l l.length c rfl (by omega) (by omega) n) (vals := [slv 0 0 l.length c, .int .i64 n]) (v := .tuple #[dgV ((rootH kk l n).1), .int .i64 (((rootH kk l n).2))]) (H' := [rwR cItem l, dsB ((incH kk l n i).1), dsB ((conH kk l m n).1), hole, hole, hole]) rfl rfl rfl rfl rfl rfl rfl ⟨⟨⟨rfl, rfl, rfl, by first | omega | exact Nat.le_refl _, by first | omega | exact Nat.le_refl _⟩, rfl, trivial⟩, ⟨(emb_rwR rfl), trivial⟩, rfl, rfl, rfl⟩ (by kernel_rfl) (by kernel_rfl) ?_
  refine r_move (v := .tuple #[dgV ((rootH kk l n).1), .int .i64 (((rootH kk l n).2))]) rfl rfl rfl ?_
  refine r_extract (vs := #[dgV ((rootH kk l n).1), .int .i64 (((rootH kk l n).2))]) (v := dgV ((rootH kk l n).1)) rfl rfl rfl rfl ?_
  refine r_extract (vs := #[dgV ((rootH kk l n).1), .int .i64 (((rootH kk l n).2))]) (v := .int .i64 (((rootH kk l n).2))) rfl rfl rfl rfl ?_
  refine r_alloc (b := dgB dz) (nid := 3) (H' := [rwR cItem l, dsB ((incH kk l n i).1), dsB ((conH kk l m n).1), dgB dz, hole, hole]) rfl rfl (by kernel_rfl) (by kernel_rfl) ?_
  refine r_store (p := pt 3 0) (v := dgV ((rootH kk l n).1)) (b := 3) (blk := dgB ((rootH kk l n).1)) (H' := [rwR cItem l, dsB ((incH kk l n i).1), dsB ((conH kk l m n).1), dgB ((rootH kk l n).1), hole, hole]) rfl rfl rfl (by kernel_rfl) (by kernel_rfl) ?_
  refine r_assign (v := .int .i64 (((rootH kk l n).2))) rfl rfl rfl ?_
  refine r_doneN (x_then (c_seq (c_reg ?_)))
  refine r_move (v := slv 0 0 l.length c) rfl rfl rfl ?_
  refine r_move (v := .int .i64 m) rfl rfl rfl ?_
  refine r_callN (e := [some (0, 0)]) (nid := 0) (HRoot_ok (G := G) kk hG hG1 l l.length c rfl (by omega) (by omega) m) (vals := [slv 0 0 l.length c, .int .i64 m]) (v := .tuple #[dgV ((rootH kk l m).1), .int .i64 (((rootH kk l m).2))]) (H' := [rwR cItem l, dsB ((incH kk l n i).1), dsB ((conH kk l m n).1), dgB ((rootH kk l n).1), hole, hole]) rfl rfl rfl rfl rfl rfl rfl ⟨⟨⟨rfl, rfl, rfl, by first | omega | exact Nat.le_refl _, by first | omega | exact Nat.le_refl _⟩, rfl, trivial⟩, ⟨(emb_rwR rfl), trivial⟩, rfl, rfl, rfl⟩ (by kernel_rfl) (by kernel_rfl) ?_
  refine r_move (v := .tuple #[dgV ((rootH kk l m).1), .int .i64 (((rootH kk l m).2))]) rfl rfl rfl ?_
  refine r_extract (vs := #[dgV ((rootH kk l m).1), .int .i64 (((rootH kk l m).2))]) (v := dgV ((rootH kk l m).1)) rfl rfl rfl rfl ?_
  refine r_extract (vs := #[dgV ((rootH kk l m).1), .int .i64 (((rootH kk l m).2))]) (v := .int .i64 (((rootH kk l m).2))) rfl rfl rfl rfl ?_
  refine r_alloc (b := dgB dz) (nid := 4) (H' := [rwR cItem l, dsB ((incH kk l n i).1), dsB ((conH kk l m n).1), dgB ((rootH kk l n).1), dgB dz, hole]) rfl rfl (by kernel_rfl) (by kernel_rfl) ?_
  refine r_store (p := pt 4 0) (v := dgV ((rootH kk l m).1)) (b := 4) (blk := dgB ((rootH kk l m).1)) (H' := [rwR cItem l, dsB ((incH kk l n i).1), dsB ((conH kk l m n).1), dgB ((rootH kk l n).1), dgB ((rootH kk l m).1), hole]) rfl rfl rfl (by kernel_rfl) (by kernel_rfl) ?_
  refine r_assign (v := .int .i64 (((rootH kk l m).2))) rfl rfl rfl ?_
  refine r_doneN (x_then (c_seq (c_seq ?_)))
  have f1 := finds_f1 (kk := kk) (l := l) (n := n) (i := i)
  have f2 := finds_f2 (kk := kk) (l := l) (m := m) (n := n)
  refine c_reg ?_
  refine r_move (v := .int .i64 (((incH kk l n i).2))) rfl rfl rfl ?_
  by_cases h2 : (((incH kk l n i).2)) = 0
  refine r_bin (v := .bool true) (vx := .int .i64 (((incH kk l n i).2))) (vy := .int .i64 0) rfl rfl rfl rfl (eql_t (by omega)) ?_
  refine r_move (v := .bool true) rfl rfl rfl ?_
  refine r_move (v := .int .i64 i) rfl rfl rfl ?_
  by_cases h3 : i < 0
  refine r_bin (v := .bool true) (vx := .int .i64 i) (vy := .int .i64 0) rfl rfl rfl rfl (lss_t (by omega)) ?_
  refine r_move (v := .bool true) rfl rfl rfl ?_
  refine r_skip rfl rfl (r_skip rfl rfl (r_skip rfl rfl (r_skip rfl rfl ?_)))
  refine r_pick (v := .bool true) rfl rfl rfl ?_
  refine r_pick (v := .bool true) rfl rfl rfl ?_
  refine r_doneN (x_then (c_true rfl (c_seq (c_reg ?_))))
  refine r_assign (v := .bool false) rfl rfl rfl ?_
  refine r_doneN (x_then (c_ret (x_thenR (x_end ?_))))
  exfalso
  first | (obtain ⟨q1, q2, q3, q4, q5⟩ := f1 (by omega); omega) | (obtain ⟨q1, q2, q3⟩ := f2 (by omega); omega)
  refine r_bin (v := .bool false) (vx := .int .i64 i) (vy := .int .i64 0) rfl rfl rfl rfl (lss_f (by omega)) ?_
  refine r_move (v := .bool false) rfl rfl rfl ?_
  refine r_move (v := .int .i64 i) rfl rfl rfl ?_
  refine r_move (v := slv 0 0 l.length c) rfl rfl rfl ?_
  refine r_len (p := slv 0 0 l.length c) (v := .int .i64 (l.length : Nat)) rfl rfl rfl rfl ?_
  by_cases h4 : (l.length : Nat) ≤ i
  refine r_bin (v := .bool true) (vx := .int .i64 i) (vy := .int .i64 (l.length : Nat)) rfl rfl rfl rfl (geq_t (by omega)) ?_
  refine r_pick (v := .bool true) rfl rfl rfl ?_
  refine r_pick (v := .bool true) rfl rfl rfl ?_
  refine r_doneN (x_then (c_true rfl (c_seq (c_reg ?_))))
  refine r_assign (v := .bool false) rfl rfl rfl ?_
  refine r_doneN (x_then (c_ret (x_thenR (x_end ?_))))
  exfalso
  first | (obtain ⟨q1, q2, q3, q4, q5⟩ := f1 (by omega); omega) | (obtain ⟨q1, q2, q3⟩ := f2 (by omega); omega)
  refine r_bin (v := .bool false) (vx := .int .i64 i) (vy := .int .i64 (l.length : Nat)) rfl rfl rfl rfl (geq_f (by omega)) ?_
  refine r_pick (v := .bool false) rfl rfl rfl ?_
  refine r_pick (v := .bool false) rfl rfl rfl ?_
  refine r_doneN (x_then (c_false rfl (c_skip (x_then (c_seq (c_seq (c_reg ?_)))))))
  refine r_move (v := .int .i64 (((incH kk l n i).2))) rfl rfl rfl ?_
  refine r_bin (v := .bool true) (vx := .int .i64 (((incH kk l n i).2))) (vy := .int .i64 0) rfl rfl rfl rfl (eql_t (by omega)) ?_
  refine r_doneN (x_then (c_true rfl (c_seq (c_reg ?_))))
  refine r_move (v := slv 0 0 l.length c) rfl rfl rfl ?_
  refine r_move (v := .int .i64 i) rfl rfl rfl ?_
  refine r_idxS (b := 0) (o := 0) (j := i.toNat * 110) (m := l.length) (c := c) (sz := 110) (i := i) (k := .i64) rfl rfl rfl rfl rfl (by omega) (by omega) (by omega) ?_
  refine r_load (p := pt 0 (i.toNat * 110)) (v := itemV (l.getD i.toNat default)) rfl rfl rfl (load_rw (n := 0) (m := 110) cItem rfl rfl rfl rfl (by omega) (by omega)) ?_
  refine r_callP (Leaf_ok (G := G) kk hG (l.getD i.toNat default)) (vals := [itemV (l.getD i.toNat default)]) (res' := .tuple #[dgV ((leafI kk (l.getD i.toNat default)).1), .int .i64 (((leafI kk (l.getD i.toNat default)).2))]) rfl rfl rfl rfl rfl (by kernel_rfl) ?_
  refine r_move (v := .tuple #[dgV ((leafI kk (l.getD i.toNat default)).1), .int .i64 (((leafI kk (l.getD i.toNat default)).2))]) rfl rfl rfl ?_
  refine r_extract (vs := #[dgV ((leafI kk (l.getD i.toNat default)).1), .int .i64 (((leafI kk (l.getD i.toNat default)).2))]) (v := dgV ((leafI kk (l.getD i.toNat default)).1)) rfl rfl rfl rfl ?_
  refine r_extract (vs := #[dgV ((leafI kk (l.getD i.toNat default)).1), .int .i64 (((leafI kk (l.getD i.toNat default)).2))]) (v := .int .i64 (((leafI kk (l.getD i.toNat default)).2))) rfl rfl rfl rfl ?_
  refine r_alloc (b := dgB dz) (nid := 5) (H' := [rwR cItem l, dsB ((incH kk l n i).1), dsB ((conH kk l m n).1), dgB ((rootH kk l n).1), dgB ((rootH kk l m).1), dgB dz]) rfl rfl (by kernel_rfl) (by kernel_rfl) ?_
  refine r_store (p := pt 5 0) (v := dgV ((leafI kk (l.getD i.toNat default)).1)) (b := 5) (blk := dgB ((leafI kk (l.getD i.toNat default)).1)) (H' := [rwR cItem l, dsB ((incH kk l n i).1), dsB ((conH kk l m n).1), dgB ((rootH kk l n).1), dgB ((rootH kk l m).1), dgB ((leafI kk (l.getD i.toNat default)).1)]) rfl rfl rfl (by kernel_rfl) (by kernel_rfl) ?_
  refine r_assign (v := .int .i64 (((leafI kk (l.getD i.toNat default)).2))) rfl rfl rfl ?_
  refine r_doneN (x_then (c_seq (c_reg ?_)))
  refine r_move (v := .int .i64 (((rootH kk l n).2))) rfl rfl rfl ?_
  by_cases h5 : (((rootH kk l n).2)) ≠ 0
  refine r_bin (v := .bool true) (vx := .int .i64 (((rootH kk l n).2))) (vy := .int .i64 0) rfl rfl rfl rfl (neq_t (by omega)) ?_
  refine r_move (v := .bool true) rfl rfl rfl ?_
  refine r_skip rfl rfl (r_skip rfl rfl ?_)
  refine r_pick (v := .bool true) rfl rfl rfl ?_
  refine r_move (v := .bool true) rfl rfl rfl ?_
  refine r_skip rfl rfl (r_skip rfl rfl (r_skip rfl rfl (r_skip rfl rfl (r_skip rfl rfl (r_skip rfl rfl (r_skip rfl rfl ?_))))))
  refine r_pick (v := .bool true) rfl rfl rfl ?_
  refine r_doneN (x_then (c_true rfl (c_seq (c_reg ?_))))
  refine r_assign (v := .bool false) rfl rfl rfl ?_
  refine r_doneN (x_then (c_ret (x_thenR (x_end ?_))))
  exfalso
  first | (obtain ⟨q1, q2, q3, q4, q5⟩ := f1 (by omega); omega) | (obtain ⟨q1, q2, q3⟩ := f2 (by omega); omega)
  refine r_bin (v := .bool false) (vx := .int .i64 (((rootH kk l n).2))) (vy := .int .i64 0) rfl rfl rfl rfl (neq_f (by omega)) ?_
  refine r_move (v := .bool false) rfl rfl rfl ?_
  refine r_move (v := .int .i64 (((leafI kk (l.getD i.toNat default)).2))) rfl rfl rfl ?_
  by_cases h6 : (((leafI kk (l.getD i.toNat default)).2)) ≠ 0
  refine r_bin (v := .bool true) (vx := .int .i64 (((leafI kk (l.getD i.toNat default)).2))) (vy := .int .i64 0) rfl rfl rfl rfl (neq_t (by omega)) ?_
  refine r_pick (v := .bool true) rfl rfl rfl ?_
  refine r_move (v := .bool true) rfl rfl rfl ?_
  refine r_skip rfl rfl (r_skip rfl rfl (r_skip rfl rfl (r_skip rfl rfl (r_skip rfl rfl (r_skip rfl rfl (r_skip rfl rfl ?_))))))
  refine r_pick (v := .bool true) rfl rfl rfl ?_
  refine r_doneN (x_then (c_true rfl (c_seq (c_reg ?_))))
  refine r_assign (v := .bool false) rfl rfl rfl ?_
  refine r_doneN (x_then (c_ret (x_thenR (x_end ?_))))
  exfalso
  first | (obtain ⟨q1, q2, q3, q4, q5⟩ := f1 (by omega); omega) | (obtain ⟨q1, q2, q3⟩ := f2 (by omega); omega)
  refine r_bin (v := .bool false) (vx := .int .i64 (((leafI kk (l.getD i.toNat default)).2))) (vy := .int .i64 0) rfl rfl rfl rfl (neq_f (by omega)) ?_
  refine r_pick (v := .bool false) rfl rfl rfl ?_
  refine r_move (v := .bool false) rfl rfl rfl ?_
  refine r_load (p := pt 3 0) (v := dgV ((rootH kk l n).1)) rfl rfl rfl (by kernel_rfl) ?_
  refine r_move (v := .int .i64 n) rfl rfl rfl ?_
  refine r_move (v := .int .i64 i) rfl rfl rfl ?_
  refine r_load (p := pt 5 0) (v := dgV ((leafI kk (l.getD i.toNat default)).1)) rfl rfl rfl (by kernel_rfl) ?_
  refine r_move (v := slv 1 0 ((incH kk l n i).1.length) ((incH kk l n i).1.length)) rfl rfl rfl ?_
  refine r_callN (e := [some (1, 0)]) (nid := 0) (Included_ok (G := G) kk hG ((rootH kk l n).1) ((leafI kk (l.getD i.toNat default)).1) n i ((incH kk l n i).1) ((incH kk l n i).1.length) ((incH kk l n i).1.length) (rfl : _ = _) (by omega) (by omega) (by omega) (by omega) (by omega) (by omega)) (vals := [dgV ((rootH kk l n).1), .int .i64 n, .int .i64 i, dgV ((leafI kk (l.getD i.toNat default)).1), slv 1 0 ((incH kk l n i).1.length) ((incH kk l n i).1.length)]) (v := .int .i64 ((inclE kk ((rootH kk l n).1) ((leafI kk (l.getD i.toNat default)).1) n i ((incH kk l n i).1)))) (H' := [rwR cItem l, dsB ((incH kk l n i).1), dsB ((conH kk l m n).1), dgB ((rootH kk l n).1), dgB ((rootH kk l m).1), dgB ((leafI kk (l.getD i.toNat default)).1)]) rfl rfl rfl rfl rfl rfl rfl ⟨⟨rfl, rfl, rfl, rfl, ⟨rfl, rfl, rfl, by first | omega | exact Nat.le_refl _, by first | omega | exact Nat.le_refl _⟩, trivial⟩, ⟨(emb_dsB rfl), trivial⟩, rfl, rfl, rfl⟩ rfl (by kernel_rfl) ?_
  by_cases h7 : ((inclE kk ((rootH kk l n).1) ((leafI kk (l.getD i.toNat default)).1) n i ((incH kk l n i).1))) ≠ 0
  refine r_bin (v := .bool true) (vx := .int .i64 ((inclE kk ((rootH kk l n).1) ((leafI kk (l.getD i.toNat default)).1) n i ((incH kk l n i).1)))) (vy := .int .i64 0) rfl rfl rfl rfl (neq_t (by omega)) ?_
  refine r_pick (v := .bool true) rfl rfl rfl ?_
  refine r_doneN (x_then (c_true rfl (c_seq (c_reg ?_))))
  refine r_assign (v := .bool false) rfl rfl rfl ?_
  refine r_doneN (x_then (c_ret (x_thenR (x_end ?_))))
  exfalso
  first | (obtain ⟨q1, q2, q3, q4, q5⟩ := f1 (by omega); omega) | (obtain ⟨q1, q2, q3⟩ := f2 (by omega); omega)
  refine r_bin (v := .bool false) (vx := .int .i64 ((inclE kk ((rootH kk l n).1) ((leafI kk (l.getD i.toNat default)).1) n i ((incH kk l n i).1)))) (vy := .int .i64 0) rfl rfl rfl rfl (neq_f (by omega)) ?_
  refine r_pick (v := .bool false) rfl rfl rfl ?_
  refine r_doneN (x_then (c_false rfl (c_skip (x_then (c_seq (c_seq (c_reg ?_)))))))
  refine r_move (v := .int .i64 (((conH kk l m n).2))) rfl rfl rfl ?_
  by_cases h8 : (((conH kk l m n).2)) = 0
  refine r_bin (v := .bool true) (vx := .int .i64 (((conH kk l m n).2))) (vy := .int .i64 0) rfl rfl rfl rfl (eql_t (by omega)) ?_
  refine r_move (v := .bool true) rfl rfl rfl ?_
  refine r_move (v := .int .i64 (((rootH kk l n).2))) rfl rfl rfl ?_
  refine r_bin (v := .bool false) (vx := .int .i64 (((rootH kk l n).2))) (vy := .int .i64 0) rfl rfl rfl rfl (neq_f (by omega)) ?_
  refine r_move (v := .bool false) rfl rfl rfl ?_
  refine r_move (v := .int .i64 (((rootH kk l m).2))) rfl rfl rfl ?_
  by_cases h9 : (((rootH kk l m).2)) ≠ 0
  refine r_bin (v := .bool true) (vx := .int .i64 (((rootH kk l m).2))) (vy := .int .i64 0) rfl rfl rfl rfl (neq_t (by omega)) ?_
  refine r_pick (v := .bool true) rfl rfl rfl ?_
  refine r_move (v := .bool true) rfl rfl rfl ?_
  refine r_skip rfl rfl (r_skip rfl rfl (r_skip rfl rfl (r_skip rfl rfl (r_skip rfl rfl (r_skip rfl rfl (r_skip rfl rfl ?_))))))
  refine r_pick (v := .bool true) rfl rfl rfl ?_
  refine r_pick (v := .bool true) rfl rfl rfl ?_
  refine r_doneN (x_then (c_true rfl (c_seq (c_reg ?_))))
  refine r_assign (v := .bool false) rfl rfl rfl ?_
  refine r_doneN (x_then (c_ret (x_thenR (x_end ?_))))
  exfalso
  first | (obtain ⟨q1, q2, q3, q4, q5⟩ := f1 (by omega); omega) | (obtain ⟨q1, q2, q3⟩ := f2 (by omega); omega)
  refine r_bin (v := .bool false) (vx := .int .i64 (((rootH kk l m).2))) (vy := .int .i64 0) rfl rfl rfl rfl (neq_f (by omega)) ?_
  refine r_pick (v := .bool false) rfl rfl rfl ?_
  refine r_move (v := .bool false) rfl rfl rfl ?_
  refine r_move (v := .int .i64 m) rfl rfl rfl ?_
  refine r_load (p := pt 4 0) (v := dgV ((rootH kk l m).1)) rfl rfl rfl (by kernel_rfl) ?_
  refine r_move (v := .int .i64 n) rfl rfl rfl ?_
  refine r_load (p := pt 3 0) (v := dgV ((rootH kk l n).1)) rfl rfl rfl (by kernel_rfl) ?_
  refine r_move (v := slv 2 0 ((conH kk l m n).1.length) ((conH kk l m n).1.length)) rfl rfl rfl ?_
  refine r_callN (e := [some (2, 0)]) (nid := 0) (Consistent_ok (G := G) kk hG m ((rootH kk l m).1) n ((rootH kk l n).1) ((conH kk l m n).1) ((conH kk l m n).1.length) ((conH kk l m n).1.length) (rfl : _ = _) (by omega) (by omega) (by omega) (by omega) (by omega) (by omega)) (vals := [.int .i64 m, dgV ((rootH kk l m).1), .int .i64 n, dgV ((rootH kk l n).1), slv 2 0 ((conH kk l m n).1.length) ((conH kk l m n).1.length)]) (v := .int .i64 ((goesE kk m ((rootH kk l m).1) n ((rootH kk l n).1) ((conH kk l m n).1)))) (H' := [rwR cItem l, dsB ((incH kk l n i).1), dsB ((conH kk l m n).1), dgB ((rootH kk l n).1), dgB ((rootH kk l m).1), dgB ((leafI kk (l.getD i.toNat default)).1)]) rfl rfl rfl rfl rfl rfl rfl ⟨⟨rfl, rfl, rfl, rfl, ⟨rfl, rfl, rfl, by first | omega | exact Nat.le_refl _, by first | omega | exact Nat.le_refl _⟩, trivial⟩, ⟨(emb_dsB rfl), trivial⟩, rfl, rfl, rfl⟩ rfl (by kernel_rfl) ?_
  by_cases h10 : ((goesE kk m ((rootH kk l m).1) n ((rootH kk l n).1) ((conH kk l m n).1))) ≠ 0
  refine r_bin (v := .bool true) (vx := .int .i64 ((goesE kk m ((rootH kk l m).1) n ((rootH kk l n).1) ((conH kk l m n).1)))) (vy := .int .i64 0) rfl rfl rfl rfl (neq_t (by omega)) ?_
  refine r_pick (v := .bool true) rfl rfl rfl ?_
  refine r_pick (v := .bool true) rfl rfl rfl ?_
  refine r_doneN (x_then (c_true rfl (c_seq (c_reg ?_))))
  refine r_assign (v := .bool false) rfl rfl rfl ?_
  refine r_doneN (x_then (c_ret (x_thenR (x_end ?_))))
  exfalso
  first | (obtain ⟨q1, q2, q3, q4, q5⟩ := f1 (by omega); omega) | (obtain ⟨q1, q2, q3⟩ := f2 (by omega); omega)
  refine r_bin (v := .bool false) (vx := .int .i64 ((goesE kk m ((rootH kk l m).1) n ((rootH kk l n).1) ((conH kk l m n).1)))) (vy := .int .i64 0) rfl rfl rfl rfl (neq_f (by omega)) ?_
  refine r_pick (v := .bool false) rfl rfl rfl ?_
  refine r_pick (v := .bool false) rfl rfl rfl ?_
  refine r_doneN (x_then (c_false rfl (c_skip (x_then (c_seq (c_reg ?_))))))
  refine r_callP (finds_ok (G := G)) (vals := []) (res' := .bool true) rfl rfl rfl rfl rfl rfl ?_
  refine r_move (v := .bool true) rfl rfl rfl ?_
  refine r_callP (roots_ok (G := G) kk hG hG1) (vals := []) (res' := .bool true) rfl rfl rfl rfl rfl rfl ?_
  refine r_pick (v := .bool true) rfl rfl rfl ?_
  refine r_assign (v := .bool true) rfl rfl rfl ?_
  refine r_doneN (x_then (c_ret (x_end ?_)))
  exact end_map [0] (v := .bool true) rfl (by kernel_rfl) rfl rfl (by decide) (by simp [keptB, rwR, cItem]) rfl
  refine r_bin (v := .bool false) (vx := .int .i64 (((conH kk l m n).2))) (vy := .int .i64 0) rfl rfl rfl rfl (eql_f (by omega)) ?_
  refine r_move (v := .bool false) rfl rfl rfl ?_
  refine r_skip rfl rfl (r_skip rfl rfl (r_skip rfl rfl (r_skip rfl rfl (r_skip rfl rfl (r_skip rfl rfl (r_skip rfl rfl (r_skip rfl rfl (r_skip rfl rfl (r_skip rfl rfl (r_skip rfl rfl (r_skip rfl rfl (r_skip rfl rfl (r_skip rfl rfl (r_skip rfl rfl ?_))))))))))))))
  refine r_pick (v := .bool false) rfl rfl rfl ?_
  refine r_doneN (x_then (c_false rfl (c_skip (x_then (c_seq (c_reg ?_))))))
  refine r_callP (finds_ok (G := G)) (vals := []) (res' := .bool true) rfl rfl rfl rfl rfl rfl ?_
  refine r_move (v := .bool true) rfl rfl rfl ?_
  refine r_callP (roots_ok (G := G) kk hG hG1) (vals := []) (res' := .bool true) rfl rfl rfl rfl rfl rfl ?_
  refine r_pick (v := .bool true) rfl rfl rfl ?_
  refine r_assign (v := .bool true) rfl rfl rfl ?_
  refine r_doneN (x_then (c_ret (x_end ?_)))
  exact end_map [0] (v := .bool true) rfl (by kernel_rfl) rfl rfl (by decide) (by simp [keptB, rwR, cItem]) rfl
  refine r_bin (v := .bool false) (vx := .int .i64 (((incH kk l n i).2))) (vy := .int .i64 0) rfl rfl rfl rfl (eql_f (by omega)) ?_
  refine r_move (v := .bool false) rfl rfl rfl ?_
  refine r_skip rfl rfl (r_skip rfl rfl (r_skip rfl rfl (r_skip rfl rfl (r_skip rfl rfl (r_skip rfl rfl (r_skip rfl rfl (r_skip rfl rfl ?_)))))))
  refine r_pick (v := .bool false) rfl rfl rfl ?_
  refine r_doneN (x_then (c_false rfl (c_skip (x_then (c_seq (c_seq (c_reg ?_)))))))
  refine r_move (v := .int .i64 (((incH kk l n i).2))) rfl rfl rfl ?_
  refine r_bin (v := .bool false) (vx := .int .i64 (((incH kk l n i).2))) (vy := .int .i64 0) rfl rfl rfl rfl (eql_f (by omega)) ?_
  refine r_doneN (x_then (c_false rfl (c_skip (x_then (c_seq (c_seq (c_reg ?_)))))))
  refine r_move (v := .int .i64 (((conH kk l m n).2))) rfl rfl rfl ?_
  by_cases h11 : (((conH kk l m n).2)) = 0
  refine r_bin (v := .bool true) (vx := .int .i64 (((conH kk l m n).2))) (vy := .int .i64 0) rfl rfl rfl rfl (eql_t (by omega)) ?_
  refine r_move (v := .bool true) rfl rfl rfl ?_
  refine r_move (v := .int .i64 (((rootH kk l n).2))) rfl rfl rfl ?_
  by_cases h12 : (((rootH kk l n).2)) ≠ 0
  refine r_bin (v := .bool true) (vx := .int .i64 (((rootH kk l n).2))) (vy := .int .i64 0) rfl rfl rfl rfl (neq_t (by omega)) ?_
  refine r_move (v := .bool true) rfl rfl rfl ?_
  refine r_skip rfl rfl (r_skip rfl rfl ?_)
  refine r_pick (v := .bool true) rfl rfl rfl ?_
  refine r_move (v := .bool true) rfl rfl rfl ?_
  refine r_skip rfl rfl (r_skip rfl rfl (r_skip rfl rfl (r_skip rfl rfl (r_skip rfl rfl (r_skip rfl rfl (r_skip rfl rfl ?_))))))
  refine r_pick (v := .bool true) rfl rfl rfl ?_
  refine r_pick (v := .bool true) rfl rfl rfl ?_
  refine r_doneN (x_then (c_true rfl (c_seq (c_reg ?_))))
  refine r_assign (v := .bool false) rfl rfl rfl ?_
  refine r_doneN (x_then (c_ret (x_thenR (x_end ?_))))
  exfalso
  first | (obtain ⟨q1, q2, q3, q4, q5⟩ := f1 (by omega); omega) | (obtain ⟨q1, q2, q3⟩ := f2 (by omega); omega)
  refine r_bin (v := .bool false) (vx := .int .i64 (((rootH kk l n).2))) (vy := .int .i64 0) rfl rfl rfl rfl (neq_f (by omega)) ?_
  refine r_move (v := .bool false) rfl rfl rfl ?_
  refine r_move (v := .int .i64 (((rootH kk l m).2))) rfl rfl rfl ?_
  by_cases h13 : (((rootH kk l m).2)) ≠ 0
  refine r_bin (v := .bool true) (vx := .int .i64 (((rootH kk l m).2))) (vy := .int .i64 0) rfl rfl rfl rfl (neq_t (by omega)) ?_
  refine r_pick (v := .bool true) rfl rfl rfl ?_
  refine r_move (v := .bool true) rfl rfl rfl ?_
  refine r_skip rfl rfl (r_skip rfl rfl (r_skip rfl rfl (r_skip rfl rfl (r_skip rfl rfl (r_skip rfl rfl (r_skip rfl rfl ?_))))))
  refine r_pick (v := .bool true) rfl rfl rfl ?_
  refine r_pick (v := .bool true) rfl rfl rfl ?_
  refine r_doneN (x_then (c_true rfl (c_seq (c_reg ?_))))
  refine r_assign (v := .bool false) rfl rfl rfl ?_
  refine r_doneN (x_then (c_ret (x_thenR (x_end ?_))))
  exfalso
  first | (obtain ⟨q1, q2, q3, q4, q5⟩ := f1 (by omega); omega) | (obtain ⟨q1, q2, q3⟩ := f2 (by omega); omega)
  refine r_bin (v := .bool false) (vx := .int .i64 (((rootH kk l m).2))) (vy := .int .i64 0) rfl rfl rfl rfl (neq_f (by omega)) ?_
  refine r_pick (v := .bool false) rfl rfl rfl ?_
  refine r_move (v := .bool false) rfl rfl rfl ?_
  refine r_move (v := .int .i64 m) rfl rfl rfl ?_
  refine r_load (p := pt 4 0) (v := dgV ((rootH kk l m).1)) rfl rfl rfl (by kernel_rfl) ?_
  refine r_move (v := .int .i64 n) rfl rfl rfl ?_
  refine r_load (p := pt 3 0) (v := dgV ((rootH kk l n).1)) rfl rfl rfl (by kernel_rfl) ?_
  refine r_move (v := slv 2 0 ((conH kk l m n).1.length) ((conH kk l m n).1.length)) rfl rfl rfl ?_
  refine r_callN (e := [some (2, 0)]) (nid := 0) (Consistent_ok (G := G) kk hG m ((rootH kk l m).1) n ((rootH kk l n).1) ((conH kk l m n).1) ((conH kk l m n).1.length) ((conH kk l m n).1.length) (rfl : _ = _) (by omega) (by omega) (by omega) (by omega) (by omega) (by omega)) (vals := [.int .i64 m, dgV ((rootH kk l m).1), .int .i64 n, dgV ((rootH kk l n).1), slv 2 0 ((conH kk l m n).1.length) ((conH kk l m n).1.length)]) (v := .int .i64 ((goesE kk m ((rootH kk l m).1) n ((rootH kk l n).1) ((conH kk l m n).1)))) (H' := [rwR cItem l, dsB ((incH kk l n i).1), dsB ((conH kk l m n).1), dgB ((rootH kk l n).1), dgB ((rootH kk l m).1), hole]) rfl rfl rfl rfl rfl rfl rfl ⟨⟨rfl, rfl, rfl, rfl, ⟨rfl, rfl, rfl, by first | omega | exact Nat.le_refl _, by first | omega | exact Nat.le_refl _⟩, trivial⟩, ⟨(emb_dsB rfl), trivial⟩, rfl, rfl, rfl⟩ rfl (by kernel_rfl) ?_
  by_cases h14 : ((goesE kk m ((rootH kk l m).1) n ((rootH kk l n).1) ((conH kk l m n).1))) ≠ 0
  refine r_bin (v := .bool true) (vx := .int .i64 ((goesE kk m ((rootH kk l m).1) n ((rootH kk l n).1) ((conH kk l m n).1)))) (vy := .int .i64 0) rfl rfl rfl rfl (neq_t (by omega)) ?_
  refine r_pick (v := .bool true) rfl rfl rfl ?_
  refine r_pick (v := .bool true) rfl rfl rfl ?_
  refine r_doneN (x_then (c_true rfl (c_seq (c_reg ?_))))
  refine r_assign (v := .bool false) rfl rfl rfl ?_
  refine r_doneN (x_then (c_ret (x_thenR (x_end ?_))))
  exfalso
  first | (obtain ⟨q1, q2, q3, q4, q5⟩ := f1 (by omega); omega) | (obtain ⟨q1, q2, q3⟩ := f2 (by omega); omega)
  refine r_bin (v := .bool false) (vx := .int .i64 ((goesE kk m ((rootH kk l m).1) n ((rootH kk l n).1) ((conH kk l m n).1)))) (vy := .int .i64 0) rfl rfl rfl rfl (neq_f (by omega)) ?_
  refine r_pick (v := .bool false) rfl rfl rfl ?_
  refine r_pick (v := .bool false) rfl rfl rfl ?_
  refine r_doneN (x_then (c_false rfl (c_skip (x_then (c_seq (c_reg ?_))))))
  refine r_callP (finds_ok (G := G)) (vals := []) (res' := .bool true) rfl rfl rfl rfl rfl rfl ?_
  refine r_move (v := .bool true) rfl rfl rfl ?_
  refine r_callP (roots_ok (G := G) kk hG hG1) (vals := []) (res' := .bool true) rfl rfl rfl rfl rfl rfl ?_
  refine r_pick (v := .bool true) rfl rfl rfl ?_
  refine r_assign (v := .bool true) rfl rfl rfl ?_
  refine r_doneN (x_then (c_ret (x_end ?_)))
  exact end_map [0] (v := .bool true) rfl (by kernel_rfl) rfl rfl (by decide) (by simp [keptB, rwR, cItem]) rfl
  refine r_bin (v := .bool false) (vx := .int .i64 (((conH kk l m n).2))) (vy := .int .i64 0) rfl rfl rfl rfl (eql_f (by omega)) ?_
  refine r_move (v := .bool false) rfl rfl rfl ?_
  refine r_skip rfl rfl (r_skip rfl rfl (r_skip rfl rfl (r_skip rfl rfl (r_skip rfl rfl (r_skip rfl rfl (r_skip rfl rfl (r_skip rfl rfl (r_skip rfl rfl (r_skip rfl rfl (r_skip rfl rfl (r_skip rfl rfl (r_skip rfl rfl (r_skip rfl rfl (r_skip rfl rfl ?_))))))))))))))
  refine r_pick (v := .bool false) rfl rfl rfl ?_
  refine r_doneN (x_then (c_false rfl (c_skip (x_then (c_seq (c_reg ?_))))))
  refine r_callP (finds_ok (G := G)) (vals := []) (res' := .bool true) rfl rfl rfl rfl rfl rfl ?_
  refine r_move (v := .bool true) rfl rfl rfl ?_
  refine r_callP (roots_ok (G := G) kk hG hG1) (vals := []) (res' := .bool true) rfl rfl rfl rfl rfl rfl ?_
  refine r_pick (v := .bool true) rfl rfl rfl ?_
  refine r_assign (v := .bool true) rfl rfl rfl ?_
  refine r_doneN (x_then (c_ret (x_end ?_)))
  exact end_map [0] (v := .bool true) rfl (by kernel_rfl) rfl rfl (by decide) (by simp [keptB, rwR, cItem]) rfl
end Go.Flat
