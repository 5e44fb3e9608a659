/- Walks and plain laws: what each theorem says, within the bounds that it names. -/
import Derived.Test.YtgmnjggeffdjhaaDoorA6
import Derived.Test.YtgmnjggeffdjhaaDoorQ2
set_option linter.unusedVariables false
set_option linter.unusedSimpArgs false
set_option maxRecDepth 20000
namespace Go.Flat
open Go.Proofs
variable {G : Glob}
theorem conH_len (kk : Nat → BitVec 32) (l : List Item) (i k : Int) : (conH kk l i k).1.length ≤ 1000 := by
  unfold conH
  split
  · split
    · split
      · exact Nat.zero_le _
      · have := consP_short kk 11 (firL kk l k).1 i.toNat (by omega) (Nat.le_trans (firL_len kk l k) (by decide))
        show (consP kk (firL kk l k).1 i.toNat).length ≤ 1000
        omega
    · exact Nat.zero_le _
  · exact Nat.zero_le _
section
variable (kk : Nat → BitVec 32)
theorem splitN_mid {n m : Nat} (h2 : 2 ≤ n) (h1 : splitN n < m) (hm : m ≤ n) : splitN m = splitN n := by
  obtain ⟨p1, p2⟩ := splitN_pos h2
  have e := splitN_eq h2
  rw [splitN_eq (n := m) (by omega), e]
  congr 1
  have g1 := Nat.log2_self_le (n := n - 1) (by omega)
  have g3 := Nat.lt_log2_self (n := n - 1)
  rw [← e] at g1
  have := (Nat.log2_lt (n := m - 1) (k := (n - 1).log2 + 1) (by omega)).2 (by omega)
  have := (Nat.le_log2 (n := m - 1) (k := (n - 1).log2) (by omega)).2 (by omega)
  omega
theorem init_app {α : Type} (l : List α) (x d : α) : (l ++ [x]).take ((l ++ [x]).length - 1) = l ∧ (l ++ [x]).getD ((l ++ [x]).length - 1) d = x ∧ 0 < (l ++ [x]).length := by
  refine ⟨by simp, ?_, by simp⟩
  rw [List.getD_eq_getElem?_getD]; simp
theorem finds_both : ∀ (n : Nat) (l : List D) (m : Nat) (kn : Bool) (old : D), l.length = n → 1 ≤ m → m ≤ n → (kn = true → old = rootI kk (l.take m)) → bothF kk old m n kn (consR kk l m kn) = some (rootI kk (l.take m), rootI kk l) := by
  intro n
  induction n using Nat.strongRecOn with
  | ind n ih =>
    intro l m kn old hl h1 hm ho
    rcases Nat.lt_or_ge m n with hlt | hge
    · obtain ⟨p1, p2⟩ := splitN_pos (n := n) (by omega)
      rw [rootI_two kk (ds := l) (by omega), hl]
      by_cases hk : m ≤ splitN n
      · rw [consR_lo kk kn h1 (by omega) (by rw [hl]; exact hk), hl]
        obtain ⟨q1, q2, q3⟩ := init_app (consR kk (l.take (splitN n)) m kn) (rootI kk (l.drop (splitN n))) d0
        rw [bothF_lo kk old kn hlt h1 (by omega) hk, q1, q2]
        have ht : (l.take (splitN n)).take m = l.take m := by rw [List.take_take, Nat.min_eq_left hk]
        rw [ih (splitN n) p2 (l.take (splitN n)) m kn old (by rw [List.length_take]; omega) h1 hk (by rw [ht]; exact ho), ht]
        rfl
      · rw [consR_hi kk kn (by omega) (by rw [hl]; omega), hl]
        obtain ⟨q1, q2, q3⟩ := init_app (consR kk (l.drop (splitN n)) (m - splitN n) false) (rootI kk (l.take (splitN n))) d0
        rw [bothF_hi kk old kn hlt h1 (by omega) (by omega), q1, q2]
        rw [ih (n - splitN n) (by omega) (l.drop (splitN n)) (m - splitN n) false old (by rw [List.length_drop]; omega) (by omega) (by omega) (fun h => by cases h)]
        have hlm : (l.take m).length = m := by rw [List.length_take]; omega
        rw [rootI_two kk (ds := l.take m) (by omega), hlm, splitN_mid (by omega) (by omega) hm, List.take_take, Nat.min_eq_left (by omega), List.drop_take]
        rfl
    · obtain rfl : m = n := by omega
      rw [consR_end kk kn (by omega)]
      have ht : l.take m = l := by rw [← hl, List.take_length]
      rw [ht] at ho ⊢
      cases kn with
      | true => rw [if_pos rfl, bothF_self, ho rfl]; rfl
      | false => rw [if_neg (by decide), bothF_end kk old m (by simp)]; rfl
theorem consP_R (l : List D) (m : Nat) : consP kk l m = consR kk l m true := rfl
theorem goes_zero (n : Int) (l : List D) (h0 : 0 ≤ n) (h1 : n ≤ 100000) (hl : l.length = n.toNat) : goesE kk 0 (shaOf kk []) n (rootI kk l) [] = 0 := by
  unfold goesE
  rw [if_neg (by show ¬ (n < 0 ∨ 100000 < n ∨ (0 : Int) < 0 ∨ n < 0 ∨ ((0 : Int) = 0 ∧ 0 < 0)); omega), if_pos rfl]
  by_cases h : n = 0
  · subst h
    obtain rfl : l = [] := List.eq_nil_of_length_eq_zero hl
    rw [if_neg]
    rw [show rootI kk [] = shaOf kk [] from rfl, sameBd_refl]; simp
  · rw [if_neg]
    rw [sameBd_refl]; simp [h]
theorem finds_goes {l : List D} {n m : Nat} (hl : l.length = n) (h1 : 1 ≤ m) (hm : m ≤ n) (hn : n ≤ 100000) : goesE kk (m : Nat) (rootI kk (l.take m)) (n : Nat) (rootI kk l) (consP kk l m) = 0 := by
  unfold goesE
  rw [if_neg (by omega), if_neg (by omega), show ((n : Int)).toNat = n from rfl, show ((m : Int)).toNat = m from rfl, consP_R, finds_both kk n l m true _ hl h1 hm (fun _ => rfl)]
  dsimp only
  rw [sameBd_refl, sameBd_refl]
  rfl

end
theorem goodF_atI : ∀ (l : List Item) (ep : Int) (i : Nat), goodF ep l = true → i < l.length → rightI (l.getD i default)
  | [], _, i, _, h => absurd h (by simp)
  | x :: l, ep, 0, h, _ => by
    rw [goodF, Bool.and_eq_true, Bool.and_eq_true] at h
    exact of_decide_eq_true h.1.1
  | x :: l, ep, i + 1, h, hi => by
    rw [goodF, Bool.and_eq_true] at h
    exact goodF_atI l x.epoch i h.2 (by simpa using hi)
theorem acL_take (kk : Nat → BitVec 32) (l : List Item) : ∀ (k m : Nat), m ≤ k → (acL kk l k).take m = acL kk l m
  | 0, m, h => by rw [Nat.le_zero.1 h]; rfl
  | k + 1, m, h => by
    rcases Nat.lt_or_ge k m with q | q
    · obtain rfl : m = k + 1 := by omega
      rw [List.take_of_length_le (by rw [acL_len]; exact Nat.le_refl _)]
    · rw [acL, List.take_append_of_le_length (by rw [acL_len]; exact q), acL_take kk l k m q]
theorem firL_ok {kk : Nat → BitVec 32} {l : List Item} {n : Int} (h : (firL kk l n).2 = 0) : rightL l ∧ 0 ≤ n ∧ n ≤ l.length ∧ firL kk l n = (acL kk l n.toNat, 0) := by
  unfold firL at h ⊢
  split at h
  · rename_i h1
    split at h
    · rename_i h2
      exact ⟨h1, h2.1, h2.2, by rw [if_pos h1, if_pos h2]⟩
    · exact absurd h (by decide)
  · exact absurd h (by decide)
theorem finds_f2 {kk : Nat → BitVec 32} {l : List Item} {m n : Int} (h : (conH kk l m n).2 = 0) : (rootH kk l n).2 = 0 ∧ (rootH kk l m).2 = 0 ∧ goesE kk m (rootH kk l m).1 n (rootH kk l n).1 (conH kk l m n).1 = 0 := by
  by_cases h0 : (firL kk l n).2 = 0
  · obtain ⟨g1, g2, g3, g4⟩ := firL_ok h0
    have hlen : (firL kk l n).1.length = n.toNat := by rw [g4]; exact acL_len _ _ _
    have h2000 := g1.1
    by_cases h1 : 0 ≤ m ∧ m ≤ (firL kk l n).1.length
    · rw [hlen] at h1
      have er : rootH kk l n = (rootI kk (acL kk l n.toNat), 0) := by unfold rootH; rw [if_pos h0, g4]
      have fm : firL kk l m = (acL kk l m.toNat, 0) := by unfold firL; rw [if_pos g1, if_pos ⟨h1.1, by omega⟩]
      have em : rootH kk l m = (rootI kk (acL kk l m.toNat), 0) := by unfold rootH; rw [fm, if_pos rfl]
      by_cases hz : m = 0
      · have ec : conH kk l m n = ([], 0) := by unfold conH; rw [if_pos h0, hlen, if_pos h1, if_pos hz]
        rw [er, em, ec]
        subst hz
        refine ⟨rfl, rfl, ?_⟩
        exact goes_zero kk n (acL kk l n.toNat) g2 (by omega) (acL_len _ _ _)
      · have ec : conH kk l m n = (consP kk (acL kk l n.toNat) m.toNat, 0) := by unfold conH; rw [if_pos h0, hlen, if_pos h1, if_neg hz, g4]
        rw [er, em, ec]
        refine ⟨rfl, rfl, ?_⟩
        have hf := finds_goes kk (l := acL kk l n.toNat) (n := n.toNat) (m := m.toNat) (acL_len _ _ _) (by omega) (by omega) (by omega)
        rw [acL_take kk l n.toNat m.toNat (by omega), show ((n.toNat : Nat) : Int) = n by omega, show ((m.toNat : Nat) : Int) = m by omega] at hf
        exact hf
    · rw [show conH kk l m n = ([], 21) from by unfold conH; rw [if_pos h0, if_neg h1]] at h
      exact absurd h (by decide)
  · rw [show conH kk l m n = ([], (firL kk l n).2) from by unfold conH; rw [if_neg h0]] at h
    exact absurd h h0
def growI (kk : Nat → BitVec 32) (l : List Item) (region ep : Int) (all : List Item) (last : Int) : Prop :=
  rightL all ∧ (all ≠ [] → (all.getD (all.length - 1) default).epoch ≤ ep) ∧ 0 ≤ last ∧ last ≤ l.length ∧ (((latL all region).2 = false ∧ last = 0) ∨ ∃ s : Signed, latL all region = (s, true) ∧ s.head.size = last ∧ s.head.root = (rootH kk l last).1 ∧ s.head.epoch = 1)
theorem grow_step {kk : Nat → BitVec 32} {l all : List Item} {region ep last node n i : Int} (hl : rightL l) (hr : 1 ≤ region ∧ region ≤ 5) (hn : 1 ≤ node ∧ node ≤ 3) (hep : 1 ≤ ep ∧ ep ≤ 900000000) (h : growI kk l region ep all last) (ha : all.length < 2000) (h1 : last ≤ n) (h2 : n ≤ l.length) (hi : 0 ≤ i ∧ i ≤ 900000000) :
    (headH kk l n region 1 i).2 = 0 ∧ (signR kk dz (headH kk l n region 1 i).1 node).2 = 0 ∧ (conH kk l last n).2 = 0 ∧ admE kk dz all (signR kk dz (headH kk l n region 1 i).1 node).1 last (conH kk l last n).1 = 0 ∧ growI kk l region ep (all ++ [anI ep (signR kk dz (headH kk l n region 1 i).1 node).1]) n := by
  obtain ⟨g1, g2, g3, g4, g5⟩ := h
  have hll := hl.1
  have hfe : firL kk l n = (acL kk l n.toNat, 0) := by unfold firL; rw [if_pos hl, if_pos ⟨by omega, h2⟩]
  have hf : (firL kk l n).2 = 0 := by rw [hfe]
  have er : (rootH kk l n).2 = 0 := by unfold rootH; rw [if_pos hf]
  have hright : rightH ⟨region, 1, n, (rootH kk l n).1, i⟩ := ⟨hr, ⟨by show (1 : Int) ≤ 1; omega, by show (1 : Int) ≤ 900000000; omega⟩, ⟨by show 0 ≤ n; omega, by show n ≤ 100000; omega⟩, hi⟩
  have eh : headH kk l n region 1 i = (⟨region, 1, n, (rootH kk l n).1, i⟩, 0) := by unfold headH; rw [if_pos er, if_pos (checkE_zero.2 hright)]
  have hc : (conH kk l last n).2 = 0 := by
    unfold conH
    rw [if_pos hf, if_pos ⟨g3, by rw [hfe]; show last ≤ ((acL kk l n.toNat).length : Int); rw [acL_len]; omega⟩]
    split <;> rfl
  obtain ⟨_, _, hgoes⟩ := finds_f2 hc
  rw [eh]
  generalize hd0 : (⟨region, 1, n, (rootH kk l n).1, i⟩ : Head) = hd
  rw [hd0] at hright
  have d1 : hd.region = region := by rw [← hd0]
  have d2 : hd.epoch = 1 := by rw [← hd0]
  have d3 : hd.size = n := by rw [← hd0]
  have d4 : hd.root = (rootH kk l n).1 := by rw [← hd0]
  show (0 : Int) = 0 ∧ (signR kk dz hd node).2 = 0 ∧ (conH kk l last n).2 = 0 ∧ admE kk dz all (signR kk dz hd node).1 last (conH kk l last n).1 = 0 ∧ growI kk l region ep (all ++ [anI ep (signR kk dz hd node).1]) n
  rw [signR_p (h := hd) ⟨hright, hn.1, hn.2⟩]
  generalize hs0 : (⟨hd, node, tagT kk dz hd node⟩ : Signed) = sg0
  have s1 : sg0.head = hd := by rw [← hs0]
  have hms : mayS sg0 := by rw [← hs0]; exact ⟨hright, hn.1, hn.2⟩
  have hv : verifyR kk dz sg0 = 0 := by
    unfold verifyR
    rw [if_pos hms, ← hs0]; exact if_pos (sameB_refl 32 _)
  refine ⟨rfl, rfl, hc, ?_, ?_⟩
  · show admE kk dz all sg0 last (conH kk l last n).1 = 0
    unfold admE
    rw [if_neg (fun q => q (if_pos g1)), if_neg (fun q => q hv), s1, d1, d2, d3, d4]
    rcases g5 with ⟨q1, q2⟩ | ⟨s, q1, q2, q3, q4⟩
    · have e0 : (rootH kk l last).1 = shaOf kk [] := by
        subst q2
        unfold rootH
        rw [show firL kk l 0 = ([], 0) from by unfold firL; rw [if_pos hl, if_pos ⟨Int.le_refl 0, by omega⟩]; rfl]; rfl
      rw [e0] at hgoes
      rw [if_neg (by rw [q1]; decide), if_neg (show ¬ (1 : Int) < 0 by decide), if_neg (fun q => q q2), if_neg (fun q => q hgoes)]
    · rw [q1, if_pos rfl]
      show (if (1 : Int) < s.head.epoch then (122 : Int) else _) = 0
      rw [if_neg (by rw [q4]; decide), if_neg (by show ¬ n < s.head.size; omega), if_neg (fun q => q q2.symm)]
      rw [show (s, true).1.head.root = (rootH kk l last).1 from q3, if_neg (fun q => q hgoes)]
  · show growI kk l region ep (all ++ [anI ep sg0]) n
    have hx := init_app all (anI ep sg0) default
    refine ⟨⟨by rw [List.length_append]; show all.length + 1 ≤ 2000; omega, goodF_last all 0 _ g1.2 (anI_right hep.1 hep.2 hms) (fun _ => by show 0 ≤ ep; omega) (fun e => g2 e)⟩, fun _ => by rw [hx.2.1]; exact Int.le_refl _, by omega, h2, .inr ⟨sg0, ?_, by rw [s1, d3], by rw [s1, d4], by rw [s1, d2]⟩⟩
    have := lat_snoc all ep sg0
    rw [s1, d1] at this
    exact this
theorem grow_ep {l : List Item} (h : rightL l) (hl : 0 < l.length) : 1 ≤ (l.getD (l.length - 1) default).epoch ∧ (l.getD (l.length - 1) default).epoch ≤ 900000000 := by
  have := goodF_atI l 0 (l.length - 1) h.2 (by omega)
  exact ⟨this.1, this.2.1⟩
theorem grow_zero {kk : Nat → BitVec 32} {l o : List Item} {region ep : Int} (h : rightL o) (hz : (latL o region).2 = false) (he : o ≠ [] → (o.getD (o.length - 1) default).epoch ≤ ep) : growI kk l region ep o 0 := ⟨h, he, Int.le_refl _, by omega, .inl ⟨hz, rfl⟩⟩
end Go.Flat
