/- Walks. -/
import Derived.Test.YtoafdomlefoenaaE3
import Derived.Test.YtoafdomlefoenaaFlatH
set_option linter.unusedVariables false
set_option linter.unusedSimpArgs false
set_option maxRecDepth 20000
namespace Go.Flat
open Go.Proofs
variable {G : Glob}
def Zcf (p : Nat → Bool) (n : Nat) : List Nat := (List.range n).filter p
def Zg6 (p : Nat → Bool) (i : Nat) : Nat := (Zcf p i).length
theorem Zjq (p : Nat → Bool) (n : Nat) : Zcf p (n + 1) = Zcf p n ++ (if p n = true then [n] else []) := by
  unfold Zcf; rw [List.range_succ, List.filter_append]; cases h : p n <;> simp [h]
theorem Zmp (p : Nat → Bool) (n : Nat) : Zg6 p (n + 1) = Zg6 p n + (if p n = true then 1 else 0) := by
  unfold Zg6; rw [Zjq, List.length_append]; cases h : p n <;> simp
theorem Zkr {p : Nat → Bool} {i : Nat} : ∀ {n : Nat}, i < n → p i = true → (Zcf p n).getD (Zg6 p i) 0 = i ∧ Zg6 p i < (Zcf p n).length
 | 0, h, _ => absurd h (by omega)
 | n + 1, h, hp => by
  rw [Zjq]
  rcases Nat.lt_or_ge i n with q | q
  ·obtain ⟨h1, h2⟩ := Zkr q hp
   refine ⟨?_, by rw [List.length_append]; omega⟩
   rw [List.getD_eq_getElem?_getD, List.getElem?_append_left h2, ← List.getD_eq_getElem?_getD]; exact h1
  ·obtain rfl : i = n := by omega
   rw [if_pos hp]
   refine ⟨?_, by rw [List.length_append]; exact Nat.lt_succ_self _⟩
   show (Zcf p i ++ [i]).getD (Zcf p i).length 0 = i
   rw [List.getD_eq_getElem?_getD, List.getElem?_append_right (Nat.le_refl _), Nat.sub_self]; rfl
theorem Zkl {p : Nat → Bool} {k : Nat} : ∀ {n : Nat}, k < (Zcf p n).length → (Zcf p n).getD k 0 < n ∧ p ((Zcf p n).getD k 0) = true ∧ Zg6 p ((Zcf p n).getD k 0) = k
 | 0, h => absurd h (by simp [Zcf])
 | n + 1, h => by
  rw [Zjq] at h ⊢
  rcases Nat.lt_or_ge k (Zcf p n).length with q | q
  ·obtain ⟨h1, h2, h3⟩ := Zkl q
   rw [List.getD_eq_getElem?_getD, List.getElem?_append_left q, ← List.getD_eq_getElem?_getD]
   exact ⟨by omega, h2, h3⟩
  ·cases hp : p n with
   | false => rw [hp] at h; simp at h; omega
   | true =>
    rw [if_pos hp, List.length_append] at h
    have e : k = (Zcf p n).length := by simp at h; omega
    subst e
    have e2 : (Zcf p n ++ [n]).getD (Zcf p n).length 0 = n := by
     rw [List.getD_eq_getElem?_getD, List.getElem?_append_right (Nat.le_refl _), Nat.sub_self]; rfl
    rw [if_pos rfl, e2]
    exact ⟨by omega, hp, rfl⟩
theorem Zuu {p : Nat → Bool} {i : Nat} {ok : Nat → Prop} (hp : p i = true) (h : ∀ j, j < Zg6 p i → ok j) (h1 : ok (Zg6 p i)) : ∀ j, j < Zg6 p (i + 1) → ok j := by
 intro j hj
 rw [Zmp, if_pos hp] at hj
 rcases Nat.lt_or_ge j (Zg6 p i) with q | q
 ·exact h j q
 ·rw [show j = Zg6 p i by omega]; exact h1
theorem Zt8 {p : Nat → Bool} {i : Nat} {ok : Nat → Prop} (hp : p i = false) (h : ∀ j, j < Zg6 p i → ok j) : ∀ j, j < Zg6 p (i + 1) → ok j := by
 intro j hj
 rw [Zmp, if_neg (by rw [hp]; decide)] at hj
 exact h j hj
def usP (l : List Item) (cl : Int) (i : Nat) : Bool := decide ((l.getD i default).entry.kind = 1 ∧ (l.getD i default).entry.client = cl)
def Zvu (c s : Int) : Nat → List Item → Int × Bool
  | _, [] => (0, false)
  | i, x :: l => if x.entry.kind = 1 ∧ x.entry.client = c ∧ x.entry.seq = s then ((i : Int), true) else Zvu c s (i + 1) l
def Zyw (l : List Item) (c s : Int) : Int × Bool := Zvu c s 0 l
def Zyo (c s : Int) (x : Item) : Bool := decide (x.entry.kind = 1 ∧ x.entry.client = c ∧ s ≤ x.entry.seq)
def Zsb (l : List Item) (c s : Int) : Bool := l.any (Zyo c s)
theorem Zq2 {l : List Item} {p : Item → Bool} : l.any p = true ↔ ∃ i, i < l.length ∧ p (l.getD i default) = true := by
 rw [List.any_eq_true]
 constructor
 ·rintro ⟨x, hx, hp⟩
  obtain ⟨i, hi, rfl⟩ := List.getElem_of_mem hx
  exact ⟨i, hi, by rw [List.getD_eq_getElem?_getD, List.getElem?_eq_getElem hi]; exact hp⟩
 ·rintro ⟨i, hi, hp⟩
  rw [List.getD_eq_getElem?_getD, List.getElem?_eq_getElem hi] at hp
  exact ⟨_, List.getElem_mem hi, hp⟩
theorem Zro {l : List Item} {n k : Nat} {c s : Int} (hn : l.length = n) (hk : k < (Zcf (usP l c) n).length) (h : s ≤ (l.getD ((Zcf (usP l c) n).getD k 0) default).entry.seq) : Zsb l c s = true := by
 obtain ⟨h1, h2, _⟩ := Zkl hk
 have h4 := of_decide_eq_true h2
 exact Zq2.2 ⟨_, by omega, decide_eq_true ⟨h4.1, h4.2, h⟩⟩
theorem Zi9 {l : List Item} {n : Nat} {c s : Int} (hn : l.length = n) (hall : ∀ k, k < (Zcf (usP l c) n).length → ¬ s ≤ (l.getD ((Zcf (usP l c) n).getD k 0) default).entry.seq) : Zsb l c s = false := by
 cases h : Zsb l c s with
 | false => rfl
 | true =>
  obtain ⟨i, hi, hp⟩ := Zq2.1 h
  have q := of_decide_eq_true hp
  have hu : usP l c i = true := decide_eq_true ⟨q.1, q.2.1⟩
  have h5 := Zkr (n := n) (by omega) hu
  have := hall _ h5.2
  rw [h5.1] at this
  exact absurd q.2.2 this
def Zek (l : List Item) (n : Nat) (x : Item) : Int :=
  if ¬ Zcj l ∨ ¬ Zbd x then 100 else if 0 < n ∧ x.epoch < (l.getD (n - 1) default).epoch then 102 else if 2000 ≤ n then 2 else if x.entry.kind ≠ 1 then 0 else if Zsb l x.entry.client x.entry.seq = true then 101 else 0
section
variable {l : List Item} {n : Nat} {x : Item}
theorem Zqz (h : ¬ Zcj l ∨ ¬ Zbd x) : Zek l n x = 100 := if_pos h
theorem Zha (h1 : Zcj l) (h2 : Zbd x) : ¬ (¬ Zcj l ∨ ¬ Zbd x) := fun q => q.elim (fun q => q h1) fun q => q h2
theorem Zu4 (h1 : Zcj l) (h2 : Zbd x) (h3 : 0 < n) (h4 : x.epoch < (l.getD (n - 1) default).epoch) : Zek l n x = 102 := by
 unfold Zek; rw [if_neg (Zha h1 h2), if_pos ⟨h3, h4⟩]
theorem Zwu (h1 : Zcj l) (h2 : Zbd x) (h3 : ¬ (0 < n ∧ x.epoch < (l.getD (n - 1) default).epoch)) (h4 : 2000 ≤ n) : Zek l n x = 2 := by
 unfold Zek; rw [if_neg (Zha h1 h2), if_neg h3, if_pos h4]
theorem Zq9 (h1 : Zcj l) (h2 : Zbd x) (h3 : ¬ (0 < n ∧ x.epoch < (l.getD (n - 1) default).epoch)) (h4 : ¬ 2000 ≤ n) (h5 : x.entry.kind ≠ 1) : Zek l n x = 0 := by
 unfold Zek; rw [if_neg (Zha h1 h2), if_neg h3, if_neg h4, if_pos h5]
theorem Zrg (h1 : Zcj l) (h2 : Zbd x) (h3 : ¬ (0 < n ∧ x.epoch < (l.getD (n - 1) default).epoch)) (h4 : ¬ 2000 ≤ n) (h5 : x.entry.kind = 1) (h6 : Zsb l x.entry.client x.entry.seq = true) : Zek l n x = 101 := by
 unfold Zek; rw [if_neg (Zha h1 h2), if_neg h3, if_neg h4, if_neg (fun q => q h5), if_pos h6]
theorem Zkk (h1 : Zcj l) (h2 : Zbd x) (h3 : ¬ (0 < n ∧ x.epoch < (l.getD (n - 1) default).epoch)) (h4 : ¬ 2000 ≤ n) (h5 : x.entry.kind = 1) (h6 : Zsb l x.entry.client x.entry.seq = false) : Zek l n x = 0 := by
 unfold Zek; rw [if_neg (Zha h1 h2), if_neg h3, if_neg h4, if_neg (fun q => q h5), if_neg (by rw [h6]; decide)]
end
theorem Zoo (l : List Item) (n c : Nat) (hn : l.length = n) (hc : n ≤ c) (hb : n ≤ 1048576) (cl : Int) : Zak Try.prog G 65 [slv 0 0 n c, Iv cl] [rwR Zh l] (.func (.func 71) #[] #[pt 1 0, pt 2 0]) [rwR Zh l, rfB (slv 0 0 n c), bxB 1 ([Iv cl])] := by
 refine Zb5 (fn := Try.f65) (nt := 6) rfl rfl rfl rfl ?_
 refine Za5 2 (H' := [rwR Zh l, hole, hole]) rfl ?_
 refine Zk (Zm ?_)
 refine Zch (v := slv 0 0 n c) (b := rfB (slv 0 0 n c)) (nid := 1) (H' := [rwR Zh l, rfB (slv 0 0 n c), hole]) rfl rfl rfl (by kernel_rfl) (by kernel_rfl) ?_
 refine Zch (v := Iv cl) (b := bxB 1 ([Iv cl])) (nid := 2) (H' := [rwR Zh l, rfB (slv 0 0 n c), bxB 1 ([Iv cl])]) rfl rfl rfl (by kernel_rfl) (by kernel_rfl) ?_
 refine Zd rfl rfl .nilFunc rfl (Zb (Zc (Zk (Zm ?_))))
 refine Zl6 (vs := []) (ws := [pt 1 0, pt 2 0]) rfl rfl rfl rfl rfl ?_
 refine Zd rfl rfl (.func (.func 71) #[] #[pt 1 0, pt 2 0]) rfl (Zb (Zc (Zq (Zo ?_))))
 exact Zcc [0, 1, 2] (v := .func (.func 71) #[] #[pt 1 0, pt 2 0]) rfl (by kernel_rfl) rfl rfl (by decide) (by simp [Zc6, rwR, rfB, bxB, Zoe, Zg2, Zh]) ⟨by simp [Zft, Zc2, Zh4, idE], by kernel_rfl⟩
theorem Zrr (l : List Item) (n c : Nat) (hn : l.length = n) (hc : n ≤ c) (hb : n ≤ 1048576) (x : Item) (ok : Nat → Prop) : Zty Try.prog G 71 [pt 3 0, pt 4 0] (Zcf (usP l x.entry.client) n).length (fun k => [Iv ((Zcf (usP l x.entry.client) n).getD k 0 : Nat), Zcn (l.getD ((Zcf (usP l x.entry.client) n).getD k 0) default).entry]) [rwR Zh l, bxB 110 (Zr x), bxB 1 ([Iv 0]), rfB (slv 0 0 n c), bxB 1 ([Iv x.entry.client])] (fun k => [rwR Zh l, bxB 110 (Zr x), bxB 1 ([Iv 0]), rfB (slv 0 0 n c), bxB 1 ([Iv x.entry.client]), bxB 110 (Zr (l.getD ((Zcf (usP l x.entry.client) n).getD k 0) default))]) (fun k => [rwR Zh l, bxB 110 (Zr x), bxB 1 ([Iv 0]), rfB (slv 0 0 n c), bxB 1 ([Iv x.entry.client]), bxB 110 (Zr (l.getD ((Zcf (usP l x.entry.client) n).getD k 0) default))]) ok [rwR Zh l, bxB 110 (Zr x), bxB 1 ([Iv 0]), rfB (slv 0 0 n c), bxB 1 ([Iv x.entry.client])] := by
 refine Zp4 (fn := Try.f71) rfl rfl (nt := 33) rfl rfl rfl ?_
 intro E l' Stop hE hd hY
 refine Zif ?_
 refine Zhh (by kernel_rfl) ?_
 refine Zl (p := pt 3 0) (v := slv 0 0 n c) rfl rfl rfl rfl ?_
 refine Zci (p := slv 0 0 n c) (v := Iv (n : Nat)) rfl rfl rfl rfl ?_
 refine Zf rfl rfl (Iv 0) rfl (Zb (Z7 (Zpm ?_)))
 refine Zve hE (fun i : Nat => [.func (.yield l') #[] #[], pt 3 0, pt 4 0, dead, dead, dead, slv 0 0 n c, Iv (n : Nat), Iv (i : Nat)]) (fun i : Nat => [rwR Zh l, bxB 110 (Zr x), bxB 1 ([Iv 0]), rfB (slv 0 0 n c), bxB 1 ([Iv x.entry.client])]) (fun i : Nat => (∀ j, j < Zg6 (usP l x.entry.client) i → ok j) ∧ i ≤ n) (fun i : Nat => n - i) 0 ⟨fun _ h => absurd h (by simp [Zg6, Zcf]), by omega⟩ ?_ ?_
 ·refine Zba (n := 5) rfl ?_ (by kernel_rfl) (by kernel_rfl)
  repeat (first | exact trivial | refine ⟨.inl rfl, ?_⟩ | refine ⟨.inr ⟨rfl, rfl⟩, ?_⟩ | refine ⟨.inr ⟨congrArg (Value.int .i64) (by first | omega | (dsimp only; omega)), rfl⟩, ?_⟩)
 rintro i ⟨hks, hi⟩
 refine Zvr hE 1 (H' := [rwR Zh l, bxB 110 (Zr x), bxB 1 ([Iv 0]), rfB (slv 0 0 n c), bxB 1 ([Iv x.entry.client]), hole]) rfl ?_
 refine Zif ?_
 refine Zhh (by kernel_rfl) ?_
 by_cases h1 : (i : Nat) < (n : Nat)
 refine Zn (vx := Iv (i : Nat)) (vy := Iv (n : Nat)) rfl rfl (.bool true) rfl rfl (Zea (by omega)) ?_
 refine Zb (Z7 (Zif (Zva rfl (Zku (Z7 (Zif (Zpm (Zif ?_))))))))
 refine Zhh (by kernel_rfl) ?_
 refine Zf rfl rfl (Iv (i : Nat)) rfl ?_
 refine Zcq (b := 0) (o := 0) (j := i * 110) (m := n) (c := c) (sz := 110) (i := (i : Nat)) (k := .i64) rfl rfl rfl rfl rfl (by omega) (by omega) (by omega) ?_
 refine Zl (p := pt 0 (i * 110)) (v := Zai (l.getD i default)) rfl rfl rfl (Zdt (n := 0) (m := 110) Zh rfl rfl rfl rfl (by have := hn; omega) (by omega)) ?_
 refine Zbk (b := bxB 110 (Zr (⟨0, (⟨0, 0, 0, ⟨#[]⟩, (⟨(⟨0, 0, 0, dz, 0⟩ : Head), 0, dz⟩ : Signed), (⟨0, 0, 0, 0, dz⟩ : Claim)⟩ : Entry)⟩ : Item))) (nid := 5) (H' := [rwR Zh l, bxB 110 (Zr x), bxB 1 ([Iv 0]), rfB (slv 0 0 n c), bxB 1 ([Iv x.entry.client]), bxB 110 (Zr (⟨0, (⟨0, 0, 0, ⟨#[]⟩, (⟨(⟨0, 0, 0, dz, 0⟩ : Head), 0, dz⟩ : Signed), (⟨0, 0, 0, 0, dz⟩ : Claim)⟩ : Entry)⟩ : Item))]) rfl rfl (by kernel_rfl) (by kernel_rfl) ?_
 refine Zd rfl rfl (Iv (i : Nat)) rfl ?_
 refine Zaa (p := pt 5 0) (v := Zai (l.getD i default)) (b := 5) (blk := bxB 110 (Zr (l.getD i default))) (H' := [rwR Zh l, bxB 110 (Zr x), bxB 1 ([Iv 0]), rfB (slv 0 0 n c), bxB 1 ([Iv x.entry.client]), bxB 110 (Zr (l.getD i default))]) rfl rfl rfl (by kernel_rfl) (by kernel_rfl) ?_
 refine Zb (Z7 (Zif ?_))
 by_cases h2 : (((l.getD i default).entry).kind) = 1
 by_cases h3 : (((l.getD i default).entry).client) = x.entry.client
 have hlt : i < n := by omega
 have hp : (usP l x.entry.client) i = true := decide_eq_true ⟨by omega, by omega⟩
 refine Zsj (fun w' h => ⟨w', h, rfl⟩) 16 rfl rfl rfl (by kernel_rfl) ?_
 refine Ze (b := 5) (o := 0) (n := 1) (o' := 1) rfl rfl rfl rfl rfl ?_
 refine Ze (b := 5) (o := 1) (n := 0) (o' := 1) rfl rfl rfl rfl rfl ?_
 refine Zl (p := pt 5 1) (v := Iv (((l.getD i default).entry).kind)) rfl rfl rfl (by kernel_rfl) ?_
 refine Zn (vx := Iv (((l.getD i default).entry).kind)) (vy := Iv 1) rfl rfl (.bool true) rfl rfl (Zao (by omega)) ?_
 refine Zf rfl rfl (.bool true) rfl ?_
 refine Ze (b := 5) (o := 0) (n := 1) (o' := 1) rfl rfl rfl rfl rfl ?_
 refine Ze (b := 5) (o := 1) (n := 1) (o' := 2) rfl rfl rfl rfl rfl ?_
 refine Zl (p := pt 5 2) (v := Iv (((l.getD i default).entry).client)) rfl rfl rfl (by kernel_rfl) ?_
 refine Zl (p := pt 4 0) (v := Iv x.entry.client) rfl rfl rfl (by kernel_rfl) ?_
 refine Zn (vx := Iv (((l.getD i default).entry).client)) (vy := Iv x.entry.client) rfl rfl (.bool true) rfl rfl (Zao (by omega)) ?_
 refine Zg rfl rfl (.bool true) rfl (Zf rfl rfl (.bool true) rfl (Zf rfl rfl (.func (.yield l') #[] #[]) rfl (Zf rfl rfl (Iv (i : Nat)) rfl ?_)))
 refine Ze (b := 5) (o := 0) (n := 1) (o' := 1) rfl rfl rfl rfl rfl ?_
 refine Zl (p := pt 5 1) (v := Zcn ((l.getD i default).entry)) rfl rfl rfl (by kernel_rfl) ?_
 refine Znt ?_
 show Zn1 _ _ _ _ _ _ _ _ _ _ _ _ _ _
 unfold Zn1
 refine ⟨l', [Iv (i : Nat), Zcn ((l.getD i default).entry)], [rwR Zh l, bxB 110 (Zr x), bxB 1 ([Iv 0]), rfB (slv 0 0 n c), bxB 1 ([Iv x.entry.client]), bxB 110 (Zr (l.getD i default))], (ok (Zg6 (usP l x.entry.client) i)), rfl, rfl, rfl, by decide, (by have h := hY (Zg6 (usP l x.entry.client) i) (Zkr hlt hp).2 hks; rw [(Zkr hlt hp).1] at h; exact h), fun hok => ?_, ?_⟩
 refine Zd3 (vx := .bool true) rfl rfl (.bool false) rfl Zbx ?_
 refine Zg rfl rfl (.bool false) rfl (Zb (Z7 (Zi2 rfl (Zku (Z2 (Z7 ?_))))))
 refine Zhh (by kernel_rfl) ?_
 refine Zn (vx := Iv (i : Nat)) (vy := Iv 1) rfl rfl (Iv ((i : Nat) + 1)) rfl rfl (Zcs (by omega) (by omega) (by omega)) ?_
 refine Zf rfl rfl (Iv ((i : Nat) + 1)) rfl (Zb ?_)
 refine Z7 ⟨(i + 1), ⟨Zuu (by exact decide_eq_true ⟨by omega, by omega⟩) hks hok, by omega⟩, by show n - (i + 1) < n - i; omega, ?_⟩
 refine Zba (n := 5) rfl ?_ (by kernel_rfl) (by kernel_rfl)
 repeat (first | exact trivial | refine ⟨.inl rfl, ?_⟩ | refine ⟨.inr ⟨rfl, rfl⟩, ?_⟩ | refine ⟨.inr ⟨congrArg (Value.int .i64) (by first | omega | (dsimp only; omega)), rfl⟩, ?_⟩)
 refine Zd3 (vx := .bool false) rfl rfl (.bool true) rfl Zbx ?_
 refine Zg rfl rfl (.bool true) rfl (Zb (Z7 (Zfd rfl (Zfo (Zz (Zbi (Zbi (Zz ?_))))))))
 exact ⟨.inr rfl⟩
 refine Zhh (by kernel_rfl) ?_
 refine Ze (b := 5) (o := 0) (n := 1) (o' := 1) rfl rfl rfl rfl rfl ?_
 refine Ze (b := 5) (o := 1) (n := 0) (o' := 1) rfl rfl rfl rfl rfl ?_
 refine Zl (p := pt 5 1) (v := Iv (((l.getD i default).entry).kind)) rfl rfl rfl (by kernel_rfl) ?_
 refine Zn (vx := Iv (((l.getD i default).entry).kind)) (vy := Iv 1) rfl rfl (.bool true) rfl rfl (Zao (by omega)) ?_
 refine Zf rfl rfl (.bool true) rfl ?_
 refine Ze (b := 5) (o := 0) (n := 1) (o' := 1) rfl rfl rfl rfl rfl ?_
 refine Ze (b := 5) (o := 1) (n := 1) (o' := 2) rfl rfl rfl rfl rfl ?_
 refine Zl (p := pt 5 2) (v := Iv (((l.getD i default).entry).client)) rfl rfl rfl (by kernel_rfl) ?_
 refine Zl (p := pt 4 0) (v := Iv x.entry.client) rfl rfl rfl (by kernel_rfl) ?_
 refine Zn (vx := Iv (((l.getD i default).entry).client)) (vy := Iv x.entry.client) rfl rfl (.bool false) rfl rfl (Zbf (by omega)) ?_
 refine Zg rfl rfl (.bool false) rfl (Zf rfl rfl (.bool false) rfl (Za rfl rfl (Za rfl rfl (Za rfl rfl (Za rfl rfl (Za rfl rfl (Za rfl rfl (Zg rfl rfl (.bool false) rfl (Zb (Z7 (Zi2 rfl (Zku (Z2 (Z7 ?_))))))))))))))
 refine Zhh (by kernel_rfl) ?_
 refine Zn (vx := Iv (i : Nat)) (vy := Iv 1) rfl rfl (Iv ((i : Nat) + 1)) rfl rfl (Zcs (by omega) (by omega) (by omega)) ?_
 refine Zf rfl rfl (Iv ((i : Nat) + 1)) rfl (Zb ?_)
 refine Z7 ⟨(i + 1), ⟨Zt8 (by exact decide_eq_false (fun q => by have := q.1; have := q.2; omega)) hks, by omega⟩, by show n - (i + 1) < n - i; omega, ?_⟩
 refine Zba (n := 5) rfl ?_ (by kernel_rfl) (by kernel_rfl)
 repeat (first | exact trivial | refine ⟨.inl rfl, ?_⟩ | refine ⟨.inr ⟨rfl, rfl⟩, ?_⟩ | refine ⟨.inr ⟨congrArg (Value.int .i64) (by first | omega | (dsimp only; omega)), rfl⟩, ?_⟩)
 refine Zhh (by kernel_rfl) ?_
 refine Ze (b := 5) (o := 0) (n := 1) (o' := 1) rfl rfl rfl rfl rfl ?_
 refine Ze (b := 5) (o := 1) (n := 0) (o' := 1) rfl rfl rfl rfl rfl ?_
 refine Zl (p := pt 5 1) (v := Iv (((l.getD i default).entry).kind)) rfl rfl rfl (by kernel_rfl) ?_
 refine Zn (vx := Iv (((l.getD i default).entry).kind)) (vy := Iv 1) rfl rfl (.bool false) rfl rfl (Zbf (by omega)) ?_
 refine Zf rfl rfl (.bool false) rfl (Za rfl rfl (Za rfl rfl (Za rfl rfl (Za rfl rfl (Za rfl rfl (Zg rfl rfl (.bool false) rfl (Zf rfl rfl (.bool false) rfl (Za rfl rfl (Za rfl rfl (Za rfl rfl (Za rfl rfl (Za rfl rfl (Za rfl rfl (Zg rfl rfl (.bool false) rfl (Zb (Z7 (Zi2 rfl (Zku (Z2 (Z7 ?_))))))))))))))))))))
 refine Zhh (by kernel_rfl) ?_
 refine Zn (vx := Iv (i : Nat)) (vy := Iv 1) rfl rfl (Iv ((i : Nat) + 1)) rfl rfl (Zcs (by omega) (by omega) (by omega)) ?_
 refine Zf rfl rfl (Iv ((i : Nat) + 1)) rfl (Zb ?_)
 refine Z7 ⟨(i + 1), ⟨Zt8 (by exact decide_eq_false (fun q => by have := q.1; have := q.2; omega)) hks, by omega⟩, by show n - (i + 1) < n - i; omega, ?_⟩
 refine Zba (n := 5) rfl ?_ (by kernel_rfl) (by kernel_rfl)
 repeat (first | exact trivial | refine ⟨.inl rfl, ?_⟩ | refine ⟨.inr ⟨rfl, rfl⟩, ?_⟩ | refine ⟨.inr ⟨congrArg (Value.int .i64) (by first | omega | (dsimp only; omega)), rfl⟩, ?_⟩)
 refine Zn (vx := Iv (i : Nat)) (vy := Iv (n : Nat)) rfl rfl (.bool false) rfl rfl (Zeb (by omega)) ?_
 refine Zb (Z7 (Zif (Zi2 rfl (Zvg (Zde (Zde (Zel rfl ?_)))))))
 exact ⟨⟨.inl rfl, fun j hj => hks j (by rw [show i = n by omega]; exact hj), _, Zba (l := []) (n := 5) rfl trivial (by kernel_rfl) (by kernel_rfl)⟩⟩
theorem Zwm (l : List Item) (n c : Nat) (hn : l.length = n) (hc : n ≤ c) (hb : n ≤ 1048576) (x : Item) : Zak Try.prog G 53 [slv 0 0 n c, Zai x] [rwR Zh l] (Iv (Zek l n x)) [rwR Zh l] := by
  refine Zak.introM (fn := Try.f53) rfl rfl (nt := 54) rfl rfl ?_
  refine Zjy (Zm8 ?_)
  refine Zng 4 (H' := [rwR Zh l, hole, hole, hole, hole]) rfl ?_
  refine Zcv (by kernel_rfl) ?_
  refine Zch (v := Zai x) (b := bxB 110 (Zr x)) (nid := 1) (H' := [rwR Zh l, bxB 110 (Zr x), hole, hole, hole]) rfl rfl rfl (by kernel_rfl) (by kernel_rfl) ?_
  refine Zbk (b := bxB 1 ([Iv 0])) (nid := 2) (H' := [rwR Zh l, bxB 110 (Zr x), bxB 1 ([Iv 0]), hole, hole]) rfl rfl (by kernel_rfl) (by kernel_rfl) ?_
  refine Zb (Z7 (Zjy (Zm8 (Zk5 (Zdi ?_)))))
  refine Zcv (by kernel_rfl) ?_
  refine Zf rfl rfl (slv 0 0 n c) rfl ?_
  refine Z9 (e := [some (0, 0)]) (nid := 0) (Zhu (G := G) l n c hn (by omega) (by omega)) (vals := [slv 0 0 n c]) (v := Iv (Zfc l)) (H' := [rwR Zh l, bxB 110 (Zr x), bxB 1 ([Iv 0]), hole, hole]) rfl rfl rfl rfl rfl rfl rfl ⟨⟨⟨rfl, rfl, rfl, by first | omega | exact Nat.le_refl _, by first | omega | exact Nat.le_refl _⟩, trivial⟩, ⟨(Zab rfl), trivial⟩, rfl, rfl, rfl⟩ rfl (by kernel_rfl) ?_
  by_cases h1 : (Zfc l) ≠ 0
  refine Zn (vx := Iv (Zfc l)) (vy := Iv 0) rfl rfl (.bool true) rfl rfl (Zed (by omega)) ?_
  refine Zf rfl rfl (.bool true) rfl (Za rfl rfl (Za rfl rfl (Za rfl rfl (Zg rfl rfl (.bool true) rfl (Zd rfl rfl (.bool true) rfl (Zb (Z7 (Zfd rfl (Zdi ?_)))))))))
  refine Zcv (by kernel_rfl) ?_
  refine Zaa (p := pt 2 0) (v := Iv 100) (b := 2) (blk := bxB 1 ([Iv 100])) (H' := [rwR Zh l, bxB 110 (Zr x), bxB 1 ([Iv 100]), hole, hole]) rfl rfl rfl (by kernel_rfl) (by kernel_rfl) ?_
  refine Zb (Z7 (Zfo (Zz (Zbi (Zo ?_)))))
  rw [show Zek l n x = 100 from Zqz (by first | exact .inl (Zaj (by omega)) | exact .inl (of_decide_eq_false (by assumption)) | exact .inr (of_decide_eq_false (by assumption)))]
  exact Zcc [0] (v := Iv 100) rfl (by kernel_rfl) rfl rfl (by decide) (by simp [Zc6, rwR, Zh]) rfl
  refine Zn (vx := Iv (Zfc l)) (vy := Iv 0) rfl rfl (.bool false) rfl rfl (Zd4 (by omega)) ?_
  refine Zf rfl rfl (.bool false) rfl ?_
  refine Zl (p := pt 1 0) (v := Zai x) rfl rfl rfl (by kernel_rfl) ?_
  refine Zp (Zox (G := G) x) (vals := [Zai x]) (res' := .bool (decide (Zbd x))) rfl rfl rfl rfl rfl rfl ?_
  rcases Bool.eq_false_or_eq_true (decide (Zbd x)) with h2 | h2
  refine Zd3 (vx := .bool (decide (Zbd x))) rfl rfl (.bool false) rfl (Eq.trans Zbx (congrArg (fun b => some (Value.bool !b)) h2)) ?_
  refine Zg rfl rfl (.bool false) rfl (Zd rfl rfl (.bool false) rfl (Zb (Z7 (Zeh rfl (Zdi ?_)))))
  refine Zu1 (by kernel_rfl) (by kernel_rfl) ?_
  refine Zf rfl rfl (slv 0 0 n c) rfl ?_
  refine Zci (p := slv 0 0 n c) (v := Iv (n : Nat)) rfl rfl rfl rfl ?_
  by_cases h3 : 0 < (n : Nat)
  refine Zn (vx := Iv (n : Nat)) (vy := Iv 0) rfl rfl (.bool true) rfl rfl (Zeq (by omega)) ?_
  refine Zf rfl rfl (.bool true) rfl ?_
  refine Ze (b := 1) (o := 0) (n := 0) (o' := 0) rfl rfl rfl rfl rfl ?_
  refine Zl (p := pt 1 0) (v := Iv x.epoch) rfl rfl rfl (by kernel_rfl) ?_
  refine Zf rfl rfl (slv 0 0 n c) rfl (Zf rfl rfl (slv 0 0 n c) rfl ?_)
  refine Zci (p := slv 0 0 n c) (v := Iv (n : Nat)) rfl rfl rfl rfl ?_
  refine Zn (vx := Iv (n : Nat)) (vy := Iv 1) rfl rfl (Iv ((n : Nat) - 1)) rfl rfl (Zhz (by omega) (by omega) (by omega)) ?_
  refine Zcq (b := 0) (o := 0) (j := (n - 1) * 110) (m := n) (c := c) (sz := 110) (i := (n : Nat) - 1) (k := .i64) rfl rfl rfl rfl rfl (by omega) (by omega) (by omega) ?_
  refine Ze (b := 0) (o := (n - 1) * 110) (n := 0) (o' := (n - 1) * 110) rfl rfl rfl rfl (by omega) ?_
  refine Zl (p := pt 0 ((n - 1) * 110)) (v := Iv ((l.getD (n - 1) default).epoch)) rfl rfl rfl (Zec Zh (l := l) (i := n - 1) (k := 0) (m := 110) rfl rfl rfl rfl (by have := hn; omega) (by omega) (by kernel_rfl) rfl) ?_
  by_cases h4 : x.epoch < ((l.getD (n - 1) default).epoch)
  refine Zn (vx := Iv x.epoch) (vy := Iv ((l.getD (n - 1) default).epoch)) rfl rfl (.bool true) rfl rfl (Zea (by omega)) ?_
  refine Zg rfl rfl (.bool true) rfl (Zd rfl rfl (.bool true) rfl ?_)
  refine Zbe (Zan [[], [0], [0, 1], [0, 1, 2], [0, 1, 2, 3], [0, 1, 2, 3, 4], [0, 1, 2, 3], [0, 1, 2, 3], [0, 1, 2, 3, 7], [0, 1, 2, 3, 7, 8], [0, 1, 2, 3, 6, 7, 8, 9], [0, 1, 2, 3, 6, 7, 8, 9, 10], [0, 1, 2, 3, 6, 7, 8, 9, 10, 11], [0, 1, 2, 3, 4, 5, 6, 7, 8, 9, 10, 11, 12], [0, 1, 2, 3, 4, 5, 6, 7, 8, 9, 10, 11, 12, 13], [0, 1, 2, 3, 4, 5, 6, 7, 8, 9, 10, 11, 12, 13, 14]] (by kernel_rfl) (by kernel_rfl)) ?_
  refine Z7 (Zfd rfl (Zdi ?_))
  refine Zcv (by kernel_rfl) ?_
  refine Zaa (p := pt 2 0) (v := Iv 102) (b := 2) (blk := bxB 1 ([Iv 102])) (H' := [rwR Zh l, bxB 110 (Zr x), bxB 1 ([Iv 102]), hole, hole]) rfl rfl rfl (by kernel_rfl) (by kernel_rfl) ?_
  refine Zb (Z7 (Zfo (Zz (Zbi (Zo ?_)))))
  rw [show Zek l n x = 102 from Zu4 (by first | exact Zby (by omega) | exact of_decide_eq_true (by assumption)) (of_decide_eq_true (by assumption)) (by omega) (by omega)]
  exact Zcc [0] (v := Iv 102) rfl (by kernel_rfl) rfl rfl (by decide) (by simp [Zc6, rwR, Zh]) rfl
  refine Zn (vx := Iv x.epoch) (vy := Iv ((l.getD (n - 1) default).epoch)) rfl rfl (.bool false) rfl rfl (Zeb (by omega)) ?_
  refine Zg rfl rfl (.bool false) rfl (Zd rfl rfl (.bool false) rfl ?_)
  refine Zbe (Zan [[], [0], [0, 1], [0, 1, 2], [0, 1, 2, 3], [0, 1, 2, 3, 4], [0, 1, 2, 3], [0, 1, 2, 3], [0, 1, 2, 3, 7], [0, 1, 2, 3, 7, 8], [0, 1, 2, 3, 6, 7, 8, 9], [0, 1, 2, 3, 6, 7, 8, 9, 10], [0, 1, 2, 3, 6, 7, 8, 9, 10, 11], [0, 1, 2, 3, 4, 5, 6, 7, 8, 9, 10, 11, 12], [0, 1, 2, 3, 4, 5, 6, 7, 8, 9, 10, 11, 12, 13], [0, 1, 2, 3, 4, 5, 6, 7, 8, 9, 10, 11, 12, 13, 14]] (by kernel_rfl) (by kernel_rfl)) ?_
  refine Z7 (Zeh rfl (Zdi ?_))
  refine Zcv (by kernel_rfl) ?_
  refine Zf rfl rfl (slv 0 0 n c) rfl ?_
  refine Zci (p := slv 0 0 n c) (v := Iv (n : Nat)) rfl rfl rfl rfl ?_
  by_cases h5 : 2000 ≤ (n : Nat)
  refine Zn (vx := Iv (n : Nat)) (vy := Iv 2000) rfl rfl (.bool true) rfl rfl (Zhr (by omega)) ?_
  refine Zd rfl rfl (.bool true) rfl (Zb (Z7 (Zfd rfl (Zdi ?_))))
  refine Zcv (by kernel_rfl) ?_
  refine Zaa (p := pt 2 0) (v := Iv 2) (b := 2) (blk := bxB 1 ([Iv 2])) (H' := [rwR Zh l, bxB 110 (Zr x), bxB 1 ([Iv 2]), hole, hole]) rfl rfl rfl (by kernel_rfl) (by kernel_rfl) ?_
  refine Zb (Z7 (Zfo (Zz (Zbi (Zo ?_)))))
  rw [show Zek l n x = 2 from Zwu (by first | exact Zby (by omega) | exact of_decide_eq_true (by assumption)) (of_decide_eq_true (by assumption)) (fun q => by have := q.1; have := q.2; omega) (by omega)]
  exact Zcc [0] (v := Iv 2) rfl (by kernel_rfl) rfl rfl (by decide) (by simp [Zc6, rwR, Zh]) rfl
  refine Zn (vx := Iv (n : Nat)) (vy := Iv 2000) rfl rfl (.bool false) rfl rfl (Zg4 (by omega)) ?_
  refine Zd rfl rfl (.bool false) rfl (Zb (Z7 (Zeh rfl (Zdi ?_))))
  refine Zcv (by kernel_rfl) ?_
  refine Ze (b := 1) (o := 0) (n := 1) (o' := 1) rfl rfl rfl rfl rfl ?_
  refine Ze (b := 1) (o := 1) (n := 0) (o' := 1) rfl rfl rfl rfl rfl ?_
  refine Zl (p := pt 1 1) (v := Iv x.entry.kind) rfl rfl rfl (by kernel_rfl) ?_
  by_cases h6 : x.entry.kind ≠ 1
  refine Zn (vx := Iv x.entry.kind) (vy := Iv 1) rfl rfl (.bool true) rfl rfl (Zed (by omega)) ?_
  refine Zd rfl rfl (.bool true) rfl (Zb (Z7 (Zfd rfl (Zdi ?_))))
  refine Zcv (by kernel_rfl) ?_
  refine Zaa (p := pt 2 0) (v := Iv 0) (b := 2) (blk := bxB 1 ([Iv 0])) (H' := [rwR Zh l, bxB 110 (Zr x), bxB 1 ([Iv 0]), hole, hole]) rfl rfl rfl (by kernel_rfl) (by kernel_rfl) ?_
  refine Zb (Z7 (Zfo (Zz (Zbi (Zo ?_)))))
  rw [show Zek l n x = 0 from (by first | exact Zq9 (by first | exact Zby (by omega) | exact of_decide_eq_true (by assumption)) (of_decide_eq_true (by assumption)) (fun q => by have := q.1; have := q.2; omega) (by omega) (by omega) | exact Zkk (by first | exact Zby (by omega) | exact of_decide_eq_true (by assumption)) (of_decide_eq_true (by assumption)) (fun q => by have := q.1; have := q.2; omega) (by omega) (by omega) (Zi9 hn hall))]
  exact Zcc [0] (v := Iv 0) rfl (by kernel_rfl) rfl rfl (by decide) (by simp [Zc6, rwR, Zh]) rfl
  refine Zn (vx := Iv x.entry.kind) (vy := Iv 1) rfl rfl (.bool false) rfl rfl (Zd4 (by omega)) ?_
  refine Zd rfl rfl (.bool false) rfl (Zb (Z7 (Zeh rfl (Zkm (Z2 (Z7 (Zjy (Zjy (Zm8 ?_)))))))))
  refine Zcv (by kernel_rfl) ?_
  refine Zf rfl rfl (slv 0 0 n c) rfl ?_
  refine Ze (b := 1) (o := 0) (n := 1) (o' := 1) rfl rfl rfl rfl rfl ?_
  refine Ze (b := 1) (o := 1) (n := 1) (o' := 2) rfl rfl rfl rfl rfl ?_
  refine Zl (p := pt 1 2) (v := Iv x.entry.client) rfl rfl rfl (by kernel_rfl) ?_
  refine Z9 (e := [some (0, 0)]) (nid := 3) (Zoo (G := G) l n c hn (by omega) (by omega) x.entry.client) (vals := [slv 0 0 n c, Iv x.entry.client]) (v := .func (.func 71) #[] #[pt 3 0, pt 4 0]) (H' := [rwR Zh l, bxB 110 (Zr x), bxB 1 ([Iv 0]), rfB (slv 0 0 n c), bxB 1 ([Iv x.entry.client])]) rfl rfl rfl rfl rfl rfl rfl ⟨⟨⟨rfl, rfl, rfl, by first | omega | exact Nat.le_refl _, by first | omega | exact Nat.le_refl _⟩, rfl, trivial⟩, ⟨(Zab rfl), trivial⟩, rfl, rfl, rfl⟩ (by kernel_rfl) (by kernel_rfl) ?_
  refine Zb (Z7 ?_)
  have hiter := Zrr (G := G) l n c hn hc hb x (fun k => ¬ x.entry.seq ≤ (l.getD ((Zcf (usP l x.entry.client) n).getD k 0) default).entry.seq)
  refine Zpf (lbs := #[pt 3 0, pt 4 0]) (iter := hiter) rfl rfl rfl (by intro _ _; rfl) (by kernel_rfl) ?_ ?_
  · intro lp k hk hks
    have hku := Zkl hk
    refine Zng 2 (H' := [rwR Zh l, bxB 110 (Zr x), bxB 1 ([Iv 0]), rfB (slv 0 0 n c), bxB 1 ([Iv x.entry.client]), bxB 110 (Zr (l.getD ((Zcf (usP l x.entry.client) n).getD k 0) default)), hole, hole]) rfl ?_
    refine Zcv (by kernel_rfl) ?_
    refine Zbk (b := bxB 109 (Zcp (⟨0, 0, 0, ⟨#[]⟩, (⟨(⟨0, 0, 0, dz, 0⟩ : Head), 0, dz⟩ : Signed), (⟨0, 0, 0, 0, dz⟩ : Claim)⟩ : Entry))) (nid := 6) (H' := [rwR Zh l, bxB 110 (Zr x), bxB 1 ([Iv 0]), rfB (slv 0 0 n c), bxB 1 ([Iv x.entry.client]), bxB 110 (Zr (l.getD ((Zcf (usP l x.entry.client) n).getD k 0) default)), bxB 109 (Zcp (⟨0, 0, 0, ⟨#[]⟩, (⟨(⟨0, 0, 0, dz, 0⟩ : Head), 0, dz⟩ : Signed), (⟨0, 0, 0, 0, dz⟩ : Claim)⟩ : Entry)), hole]) rfl rfl (by kernel_rfl) (by kernel_rfl) ?_
    refine Zaa (p := pt 6 0) (v := Zcn ((l.getD ((Zcf (usP l x.entry.client) n).getD k 0) default).entry)) (b := 6) (blk := bxB 109 (Zcp ((l.getD ((Zcf (usP l x.entry.client) n).getD k 0) default).entry))) (H' := [rwR Zh l, bxB 110 (Zr x), bxB 1 ([Iv 0]), rfB (slv 0 0 n c), bxB 1 ([Iv x.entry.client]), bxB 110 (Zr (l.getD ((Zcf (usP l x.entry.client) n).getD k 0) default)), bxB 109 (Zcp ((l.getD ((Zcf (usP l x.entry.client) n).getD k 0) default).entry)), hole]) rfl rfl rfl (by kernel_rfl) (by kernel_rfl) ?_
    refine Zb (Z7 (Zk5 (Zdi ?_)))
    refine Zcv (by kernel_rfl) ?_
    refine Ze (b := 6) (o := 0) (n := 2) (o' := 2) rfl rfl rfl rfl rfl ?_
    refine Zl (p := pt 6 2) (v := Iv (((l.getD ((Zcf (usP l x.entry.client) n).getD k 0) default).entry).seq)) rfl rfl rfl (by kernel_rfl) ?_
    refine Ze (b := 1) (o := 0) (n := 1) (o' := 1) rfl rfl rfl rfl rfl ?_
    refine Ze (b := 1) (o := 1) (n := 2) (o' := 3) rfl rfl rfl rfl rfl ?_
    refine Zl (p := pt 1 3) (v := Iv x.entry.seq) rfl rfl rfl (by kernel_rfl) ?_
    by_cases h7 : x.entry.seq ≤ (((l.getD ((Zcf (usP l x.entry.client) n).getD k 0) default).entry).seq)
    refine Zn (vx := Iv (((l.getD ((Zcf (usP l x.entry.client) n).getD k 0) default).entry).seq)) (vy := Iv x.entry.seq) rfl rfl (.bool true) rfl rfl (Zhr (by omega)) ?_
    refine Zb (Z7 (Zfd rfl (Zdi ?_)))
    refine Zcv (by kernel_rfl) ?_
    refine Zaa (p := pt 2 0) (v := Iv 101) (b := 2) (blk := bxB 1 ([Iv 101])) (H' := [rwR Zh l, bxB 110 (Zr x), bxB 1 ([Iv 101]), rfB (slv 0 0 n c), bxB 1 ([Iv x.entry.client]), bxB 110 (Zr (l.getD ((Zcf (usP l x.entry.client) n).getD k 0) default)), bxB 109 (Zcp ((l.getD ((Zcf (usP l x.entry.client) n).getD k 0) default).entry)), hole]) rfl rfl rfl (by kernel_rfl) (by kernel_rfl) ?_
    refine Zb (Z7 (Zfo (Zz ?_)))
    refine ⟨?_⟩
    show ∃ v e, EndOK _ _ _ _ _ _ _ v e
    rw [show Zek l n x = 101 from Zrg (by first | exact Zby (by omega) | exact of_decide_eq_true (by assumption)) (of_decide_eq_true (by assumption)) (fun q => by have := q.1; have := q.2; omega) (by omega) (by omega) (Zro hn hk (by omega))]
    exact Zcc [0] (v := Iv 101) rfl (by kernel_rfl) rfl rfl (by decide) (by simp [Zc6, rwR, Zh]) rfl
    refine Zn (vx := Iv (((l.getD ((Zcf (usP l x.entry.client) n).getD k 0) default).entry).seq)) (vy := Iv x.entry.seq) rfl rfl (.bool false) rfl rfl (Zg4 (by omega)) ?_
    refine Zb (Z7 (Zeh rfl (Zkm (Z2 ?_))))
    exact ⟨⟨(by show ¬ _ ≤ _; omega), _, Zba (l := []) (n := 6) rfl trivial (by kernel_rfl) (by kernel_rfl)⟩⟩
  intro hall
  show CW none _ _ _ _ _ _ _
  refine Zdi ?_
  refine Zcv (by kernel_rfl) ?_
  refine Zaa (p := pt 2 0) (v := Iv 0) (b := 2) (blk := bxB 1 ([Iv 0])) (H' := [rwR Zh l, bxB 110 (Zr x), bxB 1 ([Iv 0]), rfB (slv 0 0 n c), bxB 1 ([Iv x.entry.client])]) rfl rfl rfl (by kernel_rfl) (by kernel_rfl) ?_
  refine Zb (Z7 (Zfo (Zbi (Zo ?_))))
  rw [show Zek l n x = 0 from (by first | exact Zq9 (by first | exact Zby (by omega) | exact of_decide_eq_true (by assumption)) (of_decide_eq_true (by assumption)) (fun q => by have := q.1; have := q.2; omega) (by omega) (by omega) | exact Zkk (by first | exact Zby (by omega) | exact of_decide_eq_true (by assumption)) (of_decide_eq_true (by assumption)) (fun q => by have := q.1; have := q.2; omega) (by omega) (by omega) (Zi9 hn hall))]
  exact Zcc [0] (v := Iv 0) rfl (by kernel_rfl) rfl rfl (by decide) (by simp [Zc6, rwR, Zh]) rfl
  refine Zn (vx := Iv (n : Nat)) (vy := Iv 0) rfl rfl (.bool false) rfl rfl (Zem (by omega)) ?_
  refine Zf rfl rfl (.bool false) rfl (Za rfl rfl (Za rfl rfl (Za rfl rfl (Za rfl rfl (Za rfl rfl (Za rfl rfl (Za rfl rfl (Za rfl rfl (Za rfl rfl (Za rfl rfl (Zg rfl rfl (.bool false) rfl (Zd rfl rfl (.bool false) rfl ?_))))))))))))
  refine Zbe (Zan [[], [0], [0, 1], [0, 1, 2], [0, 1, 2, 3], [0, 1, 2, 3, 4], [0, 1, 2, 3], [0, 1, 2, 3], [0, 1, 2, 3, 7], [0, 1, 2, 3, 7, 8], [0, 1, 2, 3, 6, 7, 8, 9], [0, 1, 2, 3, 6, 7, 8, 9, 10], [0, 1, 2, 3, 6, 7, 8, 9, 10, 11], [0, 1, 2, 3, 4, 5, 6, 7, 8, 9, 10, 11, 12], [0, 1, 2, 3, 4, 5, 6, 7, 8, 9, 10, 11, 12, 13], [0, 1, 2, 3, 4, 5, 6, 7, 8, 9, 10, 11, 12, 13, 14]] (by kernel_rfl) (by kernel_rfl)) ?_
  refine Z7 (Zeh rfl (Zdi ?_))
  refine Zcv (by kernel_rfl) ?_
  refine Zf rfl rfl (slv 0 0 n c) rfl ?_
  refine Zci (p := slv 0 0 n c) (v := Iv (n : Nat)) rfl rfl rfl rfl ?_
  refine Zn (vx := Iv (n : Nat)) (vy := Iv 2000) rfl rfl (.bool false) rfl rfl (Zg4 (by omega)) ?_
  refine Zd rfl rfl (.bool false) rfl (Zb (Z7 (Zeh rfl (Zdi ?_))))
  refine Zcv (by kernel_rfl) ?_
  refine Ze (b := 1) (o := 0) (n := 1) (o' := 1) rfl rfl rfl rfl rfl ?_
  refine Ze (b := 1) (o := 1) (n := 0) (o' := 1) rfl rfl rfl rfl rfl ?_
  refine Zl (p := pt 1 1) (v := Iv x.entry.kind) rfl rfl rfl (by kernel_rfl) ?_
  by_cases h8 : x.entry.kind ≠ 1
  refine Zn (vx := Iv x.entry.kind) (vy := Iv 1) rfl rfl (.bool true) rfl rfl (Zed (by omega)) ?_
  refine Zd rfl rfl (.bool true) rfl (Zb (Z7 (Zfd rfl (Zdi ?_))))
  refine Zcv (by kernel_rfl) ?_
  refine Zaa (p := pt 2 0) (v := Iv 0) (b := 2) (blk := bxB 1 ([Iv 0])) (H' := [rwR Zh l, bxB 110 (Zr x), bxB 1 ([Iv 0]), hole, hole]) rfl rfl rfl (by kernel_rfl) (by kernel_rfl) ?_
  refine Zb (Z7 (Zfo (Zz (Zbi (Zo ?_)))))
  rw [show Zek l n x = 0 from (by first | exact Zq9 (by first | exact Zby (by omega) | exact of_decide_eq_true (by assumption)) (of_decide_eq_true (by assumption)) (fun q => by have := q.1; have := q.2; omega) (by omega) (by omega) | exact Zkk (by first | exact Zby (by omega) | exact of_decide_eq_true (by assumption)) (of_decide_eq_true (by assumption)) (fun q => by have := q.1; have := q.2; omega) (by omega) (by omega) (Zi9 hn hall))]
  exact Zcc [0] (v := Iv 0) rfl (by kernel_rfl) rfl rfl (by decide) (by simp [Zc6, rwR, Zh]) rfl
  refine Zn (vx := Iv x.entry.kind) (vy := Iv 1) rfl rfl (.bool false) rfl rfl (Zd4 (by omega)) ?_
  refine Zd rfl rfl (.bool false) rfl (Zb (Z7 (Zeh rfl (Zkm (Z2 (Z7 (Zjy (Zjy (Zm8 ?_)))))))))
  refine Zcv (by kernel_rfl) ?_
  refine Zf rfl rfl (slv 0 0 n c) rfl ?_
  refine Ze (b := 1) (o := 0) (n := 1) (o' := 1) rfl rfl rfl rfl rfl ?_
  refine Ze (b := 1) (o := 1) (n := 1) (o' := 2) rfl rfl rfl rfl rfl ?_
  refine Zl (p := pt 1 2) (v := Iv x.entry.client) rfl rfl rfl (by kernel_rfl) ?_
  refine Z9 (e := [some (0, 0)]) (nid := 3) (Zoo (G := G) l n c hn (by omega) (by omega) x.entry.client) (vals := [slv 0 0 n c, Iv x.entry.client]) (v := .func (.func 71) #[] #[pt 3 0, pt 4 0]) (H' := [rwR Zh l, bxB 110 (Zr x), bxB 1 ([Iv 0]), rfB (slv 0 0 n c), bxB 1 ([Iv x.entry.client])]) rfl rfl rfl rfl rfl rfl rfl ⟨⟨⟨rfl, rfl, rfl, by first | omega | exact Nat.le_refl _, by first | omega | exact Nat.le_refl _⟩, rfl, trivial⟩, ⟨(Zab rfl), trivial⟩, rfl, rfl, rfl⟩ (by kernel_rfl) (by kernel_rfl) ?_
  refine Zb (Z7 ?_)
  have hiter := Zrr (G := G) l n c hn hc hb x (fun k => ¬ x.entry.seq ≤ (l.getD ((Zcf (usP l x.entry.client) n).getD k 0) default).entry.seq)
  refine Zpf (lbs := #[pt 3 0, pt 4 0]) (iter := hiter) rfl rfl rfl (by intro _ _; rfl) (by kernel_rfl) ?_ ?_
  · intro lp k hk hks
    have hku := Zkl hk
    refine Zng 2 (H' := [rwR Zh l, bxB 110 (Zr x), bxB 1 ([Iv 0]), rfB (slv 0 0 n c), bxB 1 ([Iv x.entry.client]), bxB 110 (Zr (l.getD ((Zcf (usP l x.entry.client) n).getD k 0) default)), hole, hole]) rfl ?_
    refine Zcv (by kernel_rfl) ?_
    refine Zbk (b := bxB 109 (Zcp (⟨0, 0, 0, ⟨#[]⟩, (⟨(⟨0, 0, 0, dz, 0⟩ : Head), 0, dz⟩ : Signed), (⟨0, 0, 0, 0, dz⟩ : Claim)⟩ : Entry))) (nid := 6) (H' := [rwR Zh l, bxB 110 (Zr x), bxB 1 ([Iv 0]), rfB (slv 0 0 n c), bxB 1 ([Iv x.entry.client]), bxB 110 (Zr (l.getD ((Zcf (usP l x.entry.client) n).getD k 0) default)), bxB 109 (Zcp (⟨0, 0, 0, ⟨#[]⟩, (⟨(⟨0, 0, 0, dz, 0⟩ : Head), 0, dz⟩ : Signed), (⟨0, 0, 0, 0, dz⟩ : Claim)⟩ : Entry)), hole]) rfl rfl (by kernel_rfl) (by kernel_rfl) ?_
    refine Zaa (p := pt 6 0) (v := Zcn ((l.getD ((Zcf (usP l x.entry.client) n).getD k 0) default).entry)) (b := 6) (blk := bxB 109 (Zcp ((l.getD ((Zcf (usP l x.entry.client) n).getD k 0) default).entry))) (H' := [rwR Zh l, bxB 110 (Zr x), bxB 1 ([Iv 0]), rfB (slv 0 0 n c), bxB 1 ([Iv x.entry.client]), bxB 110 (Zr (l.getD ((Zcf (usP l x.entry.client) n).getD k 0) default)), bxB 109 (Zcp ((l.getD ((Zcf (usP l x.entry.client) n).getD k 0) default).entry)), hole]) rfl rfl rfl (by kernel_rfl) (by kernel_rfl) ?_
    refine Zb (Z7 (Zk5 (Zdi ?_)))
    refine Zcv (by kernel_rfl) ?_
    refine Ze (b := 6) (o := 0) (n := 2) (o' := 2) rfl rfl rfl rfl rfl ?_
    refine Zl (p := pt 6 2) (v := Iv (((l.getD ((Zcf (usP l x.entry.client) n).getD k 0) default).entry).seq)) rfl rfl rfl (by kernel_rfl) ?_
    refine Ze (b := 1) (o := 0) (n := 1) (o' := 1) rfl rfl rfl rfl rfl ?_
    refine Ze (b := 1) (o := 1) (n := 2) (o' := 3) rfl rfl rfl rfl rfl ?_
    refine Zl (p := pt 1 3) (v := Iv x.entry.seq) rfl rfl rfl (by kernel_rfl) ?_
    by_cases h9 : x.entry.seq ≤ (((l.getD ((Zcf (usP l x.entry.client) n).getD k 0) default).entry).seq)
    refine Zn (vx := Iv (((l.getD ((Zcf (usP l x.entry.client) n).getD k 0) default).entry).seq)) (vy := Iv x.entry.seq) rfl rfl (.bool true) rfl rfl (Zhr (by omega)) ?_
    refine Zb (Z7 (Zfd rfl (Zdi ?_)))
    refine Zcv (by kernel_rfl) ?_
    refine Zaa (p := pt 2 0) (v := Iv 101) (b := 2) (blk := bxB 1 ([Iv 101])) (H' := [rwR Zh l, bxB 110 (Zr x), bxB 1 ([Iv 101]), rfB (slv 0 0 n c), bxB 1 ([Iv x.entry.client]), bxB 110 (Zr (l.getD ((Zcf (usP l x.entry.client) n).getD k 0) default)), bxB 109 (Zcp ((l.getD ((Zcf (usP l x.entry.client) n).getD k 0) default).entry)), hole]) rfl rfl rfl (by kernel_rfl) (by kernel_rfl) ?_
    refine Zb (Z7 (Zfo (Zz ?_)))
    refine ⟨?_⟩
    show ∃ v e, EndOK _ _ _ _ _ _ _ v e
    rw [show Zek l n x = 101 from Zrg (by first | exact Zby (by omega) | exact of_decide_eq_true (by assumption)) (of_decide_eq_true (by assumption)) (fun q => by have := q.1; have := q.2; omega) (by omega) (by omega) (Zro hn hk (by omega))]
    exact Zcc [0] (v := Iv 101) rfl (by kernel_rfl) rfl rfl (by decide) (by simp [Zc6, rwR, Zh]) rfl
    refine Zn (vx := Iv (((l.getD ((Zcf (usP l x.entry.client) n).getD k 0) default).entry).seq)) (vy := Iv x.entry.seq) rfl rfl (.bool false) rfl rfl (Zg4 (by omega)) ?_
    refine Zb (Z7 (Zeh rfl (Zkm (Z2 ?_))))
    exact ⟨⟨(by show ¬ _ ≤ _; omega), _, Zba (l := []) (n := 6) rfl trivial (by kernel_rfl) (by kernel_rfl)⟩⟩
  intro hall
  show CW none _ _ _ _ _ _ _
  refine Zdi ?_
  refine Zcv (by kernel_rfl) ?_
  refine Zaa (p := pt 2 0) (v := Iv 0) (b := 2) (blk := bxB 1 ([Iv 0])) (H' := [rwR Zh l, bxB 110 (Zr x), bxB 1 ([Iv 0]), rfB (slv 0 0 n c), bxB 1 ([Iv x.entry.client])]) rfl rfl rfl (by kernel_rfl) (by kernel_rfl) ?_
  refine Zb (Z7 (Zfo (Zbi (Zo ?_))))
  rw [show Zek l n x = 0 from (by first | exact Zq9 (by first | exact Zby (by omega) | exact of_decide_eq_true (by assumption)) (of_decide_eq_true (by assumption)) (fun q => by have := q.1; have := q.2; omega) (by omega) (by omega) | exact Zkk (by first | exact Zby (by omega) | exact of_decide_eq_true (by assumption)) (of_decide_eq_true (by assumption)) (fun q => by have := q.1; have := q.2; omega) (by omega) (by omega) (Zi9 hn hall))]
  exact Zcc [0] (v := Iv 0) rfl (by kernel_rfl) rfl rfl (by decide) (by simp [Zc6, rwR, Zh]) rfl
  refine Zd3 (vx := .bool (decide (Zbd x))) rfl rfl (.bool true) rfl (Eq.trans Zbx (congrArg (fun b => some (Value.bool !b)) h2)) ?_
  refine Zg rfl rfl (.bool true) rfl (Zd rfl rfl (.bool true) rfl (Zb (Z7 (Zfd rfl (Zdi ?_)))))
  refine Zcv (by kernel_rfl) ?_
  refine Zaa (p := pt 2 0) (v := Iv 100) (b := 2) (blk := bxB 1 ([Iv 100])) (H' := [rwR Zh l, bxB 110 (Zr x), bxB 1 ([Iv 100]), hole, hole]) rfl rfl rfl (by kernel_rfl) (by kernel_rfl) ?_
  refine Zb (Z7 (Zfo (Zz (Zbi (Zo ?_)))))
  rw [show Zek l n x = 100 from Zqz (by first | exact .inl (Zaj (by omega)) | exact .inl (of_decide_eq_false (by assumption)) | exact .inr (of_decide_eq_false (by assumption)))]
  exact Zcc [0] (v := Iv 100) rfl (by kernel_rfl) rfl rfl (by decide) (by simp [Zc6, rwR, Zh]) rfl
end Go.Flat
