/- Walks and plain laws: what each theorem says, within the bounds that it names. -/
import Derived.Test.YtajjalickpkkkaaDoorX16
import Derived.Laws.Strings
set_option linter.unusedVariables false
set_option linter.unusedSimpArgs false
namespace Go.Flat
open Go.Proofs
variable {G : Glob} (kk : Nat → BitVec 32)
/-! ### Plain: what the tree tells is found -/
theorem splitN_mid {n m : Nat} (h2 : 2 ≤ n) (h1 : splitN n < m) (hm : m ≤ n) : splitN m = splitN n := by
  obtain ⟨p1, p2⟩ := splitN_pos h2
  have e := splitN_eq h2
  rw [splitN_eq (n := m) (by omega), e]
  congr 1
  have g1 := Nat.log2_self_le (n := n - 1) (by omega)
  have g3 := Nat.lt_log2_self (n := n - 1)
  rw [← e] at g1
  have := (Nat.log2_lt (n := m - 1) (k := (n - 1).log2 + 1) (by omega)).2 (by omega)
  have := (Nat.le_log2 (n := m - 1) (k := (n - 1).log2) (by omega)).2 (by omega)
  omega
theorem init_app {α : Type} (l : List α) (x d : α) : (l ++ [x]).take ((l ++ [x]).length - 1) = l ∧ (l ++ [x]).getD ((l ++ [x]).length - 1) d = x ∧ 0 < (l ++ [x]).length := by
  refine ⟨by simp, ?_, by simp⟩
  rw [List.getD_eq_getElem?_getD]; simp
theorem getD_take {l : List D} {i k : Nat} (h : i < k) : (l.take k).getD i d0 = l.getD i d0 := by
  rw [List.getD_eq_getElem?_getD, List.getD_eq_getElem?_getD, List.getElem?_take, if_pos h]
theorem getD_drop {l : List D} {i k : Nat} (h : k ≤ i) : (l.drop k).getD (i - k) d0 = l.getD i d0 := by
  rw [List.getD_eq_getElem?_getD, List.getD_eq_getElem?_getD, List.getElem?_drop]; congr 2; omega
theorem finds_way : ∀ (n : Nat) (l : List D) (i : Nat), l.length = n → i < n → ∃ w, wayF n i (inclP kk l i) = some w ∧ (knA kk (l.getD i d0) w).getD 0 d0 = rootI kk l := by
  intro n
  induction n using Nat.strongRecOn with
  | ind n ih =>
    intro l i hl hi
    by_cases h2 : 2 ≤ n
    · obtain ⟨p1, p2⟩ := splitN_pos h2
      rw [rootI_two kk (by omega), hl]
      by_cases hk : i < splitN n
      · rw [inclP_lo kk (by omega) (by rw [hl]; exact hk), hl]
        obtain ⟨q1, q2, q3⟩ := init_app (inclP kk (l.take (splitN n)) i) (rootI kk (l.drop (splitN n))) d0
        obtain ⟨w, w1, w2⟩ := ih (splitN n) p2 (l.take (splitN n)) i (by rw [List.length_take]; omega) hk
        rw [wayF_lo h2 q3 hk, q1, q2, w1]
        refine ⟨_, rfl, ?_⟩
        rw [getD_take hk] at w2
        simp only [knA, w2]
        rfl
      · rw [inclP_hi kk (by omega) (by rw [hl]; omega), hl]
        obtain ⟨q1, q2, q3⟩ := init_app (inclP kk (l.drop (splitN n)) (i - splitN n)) (rootI kk (l.take (splitN n))) d0
        obtain ⟨w, w1, w2⟩ := ih (n - splitN n) (by omega) (l.drop (splitN n)) (i - splitN n) (by rw [List.length_drop]; omega) (by omega)
        rw [wayF_hi h2 q3 (by omega), q1, q2, w1]
        refine ⟨_, rfl, ?_⟩
        rw [getD_drop (by omega)] at w2
        simp only [knA, w2]
        rfl
    · obtain rfl : n = 1 := by omega
      obtain rfl : i = 0 := by omega
      rw [inclP_one kk 0 (by omega), wayF_one _ _ (by decide)]
      refine ⟨[], rfl, ?_⟩
      match l, hl with
      | [x], _ => rfl
theorem finds_incl {l : List D} {n i : Nat} (hl : l.length = n) (hi : i < n) (hn : n ≤ 100000) : inclE kk (rootI kk l) (l.getD i d0) (n : Nat) (i : Nat) (inclP kk l i) = 0 := by
  obtain ⟨w, w1, w2⟩ := finds_way kk n l i hl hi
  unfold inclE
  rw [if_neg (by omega), show ((n : Int)).toNat = n from rfl, show ((i : Int)).toNat = i from rfl, w1]
  dsimp only
  rw [w2, sameBd_refl]
  rfl
theorem finds_both : ∀ (n : Nat) (l : List D) (m : Nat) (kn : Bool) (old : D), l.length = n → 1 ≤ m → m ≤ n → (kn = true → old = rootI kk (l.take m)) → bothF kk old m n kn (consR kk l m kn) = some (rootI kk (l.take m), rootI kk l) := by
  intro n
  induction n using Nat.strongRecOn with
  | ind n ih =>
    intro l m kn old hl h1 hm ho
    rcases Nat.lt_or_ge m n with hlt | hge
    · obtain ⟨p1, p2⟩ := splitN_pos (n := n) (by omega)
      rw [rootI_two kk (ds := l) (by omega), hl]
      by_cases hk : m ≤ splitN n
      · rw [consR_lo kk kn h1 (by omega) (by rw [hl]; exact hk), hl]
        obtain ⟨q1, q2, q3⟩ := init_app (consR kk (l.take (splitN n)) m kn) (rootI kk (l.drop (splitN n))) d0
        rw [bothF_lo kk old kn hlt h1 (by omega) hk, q1, q2]
        have ht : (l.take (splitN n)).take m = l.take m := by rw [List.take_take, Nat.min_eq_left hk]
        rw [ih (splitN n) p2 (l.take (splitN n)) m kn old (by rw [List.length_take]; omega) h1 hk (by rw [ht]; exact ho), ht]
        rfl
      · rw [consR_hi kk kn (by omega) (by rw [hl]; omega), hl]
        obtain ⟨q1, q2, q3⟩ := init_app (consR kk (l.drop (splitN n)) (m - splitN n) false) (rootI kk (l.take (splitN n))) d0
        rw [bothF_hi kk old kn hlt h1 (by omega) (by omega), q1, q2]
        rw [ih (n - splitN n) (by omega) (l.drop (splitN n)) (m - splitN n) false old (by rw [List.length_drop]; omega) (by omega) (by omega) (fun h => by cases h)]
        have hlm : (l.take m).length = m := by rw [List.length_take]; omega
        rw [rootI_two kk (ds := l.take m) (by omega), hlm, splitN_mid (by omega) (by omega) hm, List.take_take, Nat.min_eq_left (by omega), List.drop_take]
        rfl
    · obtain rfl : m = n := by omega
      rw [consR_end kk kn (by omega)]
      have ht : l.take m = l := by rw [← hl, List.take_length]
      rw [ht] at ho ⊢
      cases kn with
      | true => rw [if_pos rfl, bothF_self, ho rfl]; rfl
      | false => rw [if_neg (by decide), bothF_end kk old m (by simp)]; rfl
theorem consP_R (l : List D) (m : Nat) : consP kk l m = consR kk l m true := rfl
theorem goes_zero (n : Int) (l : List D) (h0 : 0 ≤ n) (h1 : n ≤ 100000) (hl : l.length = n.toNat) : goesE kk 0 (shaOf kk []) n (rootI kk l) [] = 0 := by
  unfold goesE
  rw [if_neg (by show ¬ (n < 0 ∨ 100000 < n ∨ (0 : Int) < 0 ∨ n < 0 ∨ ((0 : Int) = 0 ∧ 0 < 0)); omega), if_pos rfl]
  by_cases h : n = 0
  · subst h
    obtain rfl : l = [] := List.eq_nil_of_length_eq_zero hl
    rw [if_neg]
    rw [show rootI kk [] = shaOf kk [] from rfl, sameBd_refl]; simp
  · rw [if_neg]
    rw [sameBd_refl]; simp [h]
theorem finds_goes {l : List D} {n m : Nat} (hl : l.length = n) (h1 : 1 ≤ m) (hm : m ≤ n) (hn : n ≤ 100000) : goesE kk (m : Nat) (rootI kk (l.take m)) (n : Nat) (rootI kk l) (consP kk l m) = 0 := by
  unfold goesE
  rw [if_neg (by omega), if_neg (by omega), show ((n : Int)).toNat = n from rfl, show ((m : Int)).toNat = m from rfl, consP_R, finds_both kk n l m true _ hl h1 hm (fun _ => rfl)]
  dsimp only
  rw [sameBd_refl, sameBd_refl]
  rfl
theorem finds_goes' {l l' : List D} {n m : Nat} {a : D} (hl : l.length = n) (h1 : 1 ≤ m) (hm : m ≤ n) (hn : n ≤ 100000) (he : l.take m = l') (ha : rootI kk l' = a) : goesE kk (m : Nat) a (n : Nat) (rootI kk l) (consP kk l m) = 0 := by
  subst he; subst ha; exact finds_goes kk hl h1 hm hn
/-! ### Plain: two leaves at one place -/
theorem inclE_len {root leaf : D} {size index : Int} {ds : List D} (h : 18 < ds.length) : inclE kk root leaf size index ds = 40 := by
  unfold inclE
  split
  · rfl
  · rename_i hb
    cases hw : wayF size.toNat index.toNat ds with
    | none => rfl
    | some l =>
      have := wayF_len 17 _ _ _ _ (show size.toNat ≤ 2 ^ 17 by omega) hw
      omega
theorem goesE_len {old root : D} {m n : Int} {ds : List D} (h : 18 < ds.length) : goesE kk m old n root ds = 40 := by
  unfold goesE
  split
  · rfl
  · rename_i hb
    rw [if_neg (by omega)]
    cases hw : bothF kk old m.toNat n.toNat true ds with
    | none => rfl
    | some p =>
      have := bothF_len kk old 17 _ _ _ _ _ (by omega) (by omega) (show n.toNat ≤ 2 ^ 17 by omega) hw
      omega
theorem alone_one {leaf root : D} : inclE kk root leaf 1 0 [] = if sameB 32 root leaf = true then 0 else 41 := by
  unfold inclE
  rw [if_neg (by decide), show (1 : Int).toNat = 1 from rfl, wayF_one _ _ (by decide)]
  show (if sameB 32 leaf root = true then 0 else 41) = _
  have : sameB 32 leaf root = sameB 32 root leaf := by
    rw [Bool.eq_iff_iff, sameB_iff, sameB_iff]; exact ⟨fun h => h.symm, fun h => h.symm⟩
  rw [this]
theorem alone_two {root : D} {n : Int} (h0 : 1 ≤ n) (h1 : n ≤ 100000) : goesE kk n root n root [] = 0 := by
  unfold goesE
  rw [if_neg (by show ¬ (n < 0 ∨ 100000 < n ∨ n < 0 ∨ n < n ∨ (n = 0 ∧ 0 < 0)); omega), if_neg (by omega), bothF_self]
  show (if (sameB 32 root root && sameB 32 root root) = true then (0 : Int) else 41) = 0
  rw [sameBd_refl]; rfl
theorem bl_inj {a b : ByteArray} (h : sameT a b = true) : a = b := by
  unfold sameT at h
  have h1 := beq_iff_eq.1 h
  rw [ByteArray.toList_eq, ByteArray.toList_eq] at h1
  have h2 := Array.toList_inj.1 h1
  cases a; cases b; dsimp only at h2; rw [h2]
theorem tx_size (a b : D) : (tx a b).size = 65 := by
  have e1 : one1.size = 1 := rfl
  simp only [tx, ByteArray.size_append, strOf_size, dgL_len, e1]
theorem tx_bl (a b : D) : bl (tx a b) = msgOf [one1, strOf (dgL a), strOf (dgL b)] := by
  simp only [tx, bl_append, msgOf, List.map_cons, List.map_nil, List.flatten_cons, List.flatten_nil, List.append_nil, List.append_assoc]
theorem tx_inj {a b c d : D} (h : tx a b = tx c d) : sameB 32 a c = true ∧ sameB 32 b d = true := by
  have h1 : bl (tx a b) = bl (tx c d) := by rw [h]
  rw [tx_bl, tx_bl] at h1
  simp only [msgOf, List.map_cons, List.map_nil, List.flatten_cons, List.flatten_nil, List.append_nil, bl_strOf] at h1
  have h2 := List.append_cancel_left h1
  obtain ⟨h3, h4⟩ := List.append_inj h2 (by rw [dgL_len, dgL_len])
  refine ⟨sameB_iff.2 ?_, sameB_iff.2 ?_⟩
  · rw [dgL_row, dgL_row, h3]
  · rw [dgL_row, dgL_row, h4]
theorem knot_congr {a b c d : D} (h1 : sameB 32 a c = true) (h2 : sameB 32 b d = true) : knotF kk a b = knotF kk c d := by
  have e : ∀ {x y : D}, sameB 32 x y = true → dgL x = dgL y := fun {x y} h => by
    have := sameB_iff.1 h
    unfold dgL
    simp only [sameB, List.all_eq_true, List.mem_range, beq_iff_eq] at h
    exact List.map_congr_left fun i hi => h i (by simpa using hi)
  unfold knotF; rw [e h1, e h2]
/-- What is made of the head of a way. -/
theorem binds_walk (a b : D) (hab : sameB 32 a b = false) : ∀ (la lb : List Stp), la.map (·.2) = lb.map (·.2) → sameB 32 ((knA kk a la).getD 0 d0) ((knA kk b lb).getD 0 d0) = true →
    ∃ s t, clashT (knT kk a la) (knT kk b lb) = some (s, t) ∧ sameT s t = false ∧ s.size = 65 ∧ t.size = 65 ∧ sameB 32 (shaOf kk (bl s)) (shaOf kk (bl t)) = true
  | [], [], _, h => by
    have : sameB 32 a b = true := h
    rw [hab] at this; cases this
  | [], _ :: _, hm, _ => by cases hm
  | _ :: _, [], hm, _ => by cases hm
  | (x, r) :: ta, (y, r') :: tb, hm, h => by
    obtain ⟨hr, hm'⟩ := List.cons.inj hm
    dsimp only at hr
    subst hr
    generalize hA : (knA kk a ta).getD 0 d0 = A
    generalize hB : (knA kk b tb).getD 0 d0 = B
    simp only [knA, knT, hA, hB, List.getD_cons_zero] at h ⊢
    have hk : ∀ p q : D, knotF kk p q = shaOf kk (bl (tx p q)) := fun p q => by rw [tx_bl]; rfl
    cases r with
    | true =>
      simp only [if_true] at h ⊢
      rw [hk, hk] at h
      cases hs : sameT (tx x A) (tx y B) with
      | false => exact ⟨tx x A, tx y B, by unfold clashT; rw [hs]; rfl, hs, tx_size _ _, tx_size _ _, h⟩
      | true =>
        obtain ⟨s, t, g1, g2⟩ := binds_walk a b hab ta tb hm' (by rw [hA, hB]; exact (tx_inj (bl_inj hs)).2)
        exact ⟨s, t, by unfold clashT; rw [hs]; exact g1, g2⟩
    | false =>
      simp only [Bool.false_eq_true, if_false] at h ⊢
      rw [hk, hk] at h
      cases hs : sameT (tx A x) (tx B y) with
      | false => exact ⟨tx A x, tx B y, by unfold clashT; rw [hs]; rfl, hs, tx_size _ _, tx_size _ _, h⟩
      | true =>
        obtain ⟨s, t, g1, g2⟩ := binds_walk a b hab ta tb hm' (by rw [hA, hB]; exact (tx_inj (bl_inj hs)).1)
        exact ⟨s, t, by unfold clashT; rw [hs]; exact g1, g2⟩
theorem wayF_dirs : ∀ (n size index : Nat) (p q : List D) (la lb : List Stp), size ≤ n → wayF size index p = some la → wayF size index q = some lb → la.map (·.2) = lb.map (·.2)
  | 0, size, index, p, q, la, lb, h, hp, hq => by
    rw [wayF_one index _ (by omega)] at hp hq
    split at hp <;> first | (cases hp; done) | skip
    split at hq <;> first | (cases hq; done) | skip
    injection hp with hp; injection hq with hq; subst hp; subst hq; rfl
  | n + 1, size, index, p, q, la, lb, h, hp, hq => by
    by_cases h2 : 2 ≤ size
    · obtain ⟨p1, p2⟩ := splitN_pos h2
      rcases Nat.eq_zero_or_pos p.length with h0 | h0
      · rw [wayF_nil index h2 h0] at hp; cases hp
      rcases Nat.eq_zero_or_pos q.length with h4 | h4
      · rw [wayF_nil index h2 h4] at hq; cases hq
      by_cases hi : index < splitN size
      · rw [wayF_lo h2 h0 hi] at hp
        rw [wayF_lo h2 h4 hi] at hq
        obtain ⟨la', h5, rfl⟩ := Option.map_eq_some_iff.1 hp
        obtain ⟨lb', h6, rfl⟩ := Option.map_eq_some_iff.1 hq
        simp [wayF_dirs n _ _ _ _ _ _ (by omega) h5 h6]
      · rw [wayF_hi h2 h0 (by omega)] at hp
        rw [wayF_hi h2 h4 (by omega)] at hq
        obtain ⟨la', h5, rfl⟩ := Option.map_eq_some_iff.1 hp
        obtain ⟨lb', h6, rfl⟩ := Option.map_eq_some_iff.1 hq
        simp [wayF_dirs n _ _ _ _ _ _ (by omega) h5 h6]
    · rw [wayF_one index _ (by omega)] at hp hq
      split at hp <;> first | (cases hp; done) | skip
      split at hq <;> first | (cases hq; done) | skip
      injection hp with hp; injection hq with hq; subst hp; subst hq; rfl
theorem binds_ok {root a b : D} {size index : Int} {p q : List D} (hab : sameB 32 a b = false) (h1 : inclE kk root a size index p = 0) (h2 : inclE kk root b size index q = 0) :
    ∃ s t, clashE kk root size index a p b q = some (s, t) ∧ sameT s t = false ∧ s.size = 65 ∧ t.size = 65 ∧ sameB 32 (shaOf kk (bl s)) (shaOf kk (bl t)) = true := by
  have hE : clashE kk root size index a p b q = (match wayF size.toNat index.toNat p, wayF size.toNat index.toNat q with
    | some la, some lb => clashT (knT kk a la) (knT kk b lb)
    | _, _ => none) := by
    unfold clashE; rw [if_neg (by rw [hab, h1, h2]; simp)]; rfl
  obtain ⟨sz1, ix1, la, e1, e2, g1, g2, g3, hwa, hra⟩ := inclE_zero h1
  obtain ⟨sz2, ix2, lb, e3, e4, g4, g5, g6, hwb, hrb⟩ := inclE_zero h2
  subst e1; subst e2
  obtain rfl : sz1 = sz2 := by omega
  obtain rfl : ix1 = ix2 := by omega
  rw [show ((sz1 : Int)).toNat = sz1 from rfl, show ((ix1 : Int)).toNat = ix1 from rfl, hwa, hwb] at hE
  rw [hE]
  refine binds_walk kk a b hab la lb (wayF_dirs sz1 _ _ _ _ _ _ (Nat.le_refl _) hwa hwb) ?_
  exact sameB_iff.2 ((sameB_iff.1 hra).trans (sameB_iff.1 hrb).symm)
theorem binds_no {root a b : D} {size index : Int} {p q : List D} (h : sameB 32 a b = true ∨ inclE kk root a size index p ≠ 0 ∨ inclE kk root b size index q ≠ 0) : clashE kk root size index a p b q = none := by
  unfold clashE; rw [if_pos h]
end Go.Flat
