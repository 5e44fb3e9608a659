/- Walks. -/
import Derived.Test.YtoafdomlefoenaaE3
import Derived.Test.YtoafdomlefoenaaFlatH
set_option linter.unusedVariables false
set_option linter.unusedSimpArgs false
set_option maxRecDepth 20000
namespace Go.Flat
open Go.Proofs
variable {G : Glob}
def Zcf (p : Nat → Bool) (n : Nat) : List Nat := (List.range n).filter p
def Zhr (p : Nat → Bool) (i : Nat) : Nat := (Zcf p i).length
theorem Zki (p : Nat → Bool) (n : Nat) : Zcf p (n + 1) = Zcf p n ++ (if p n = true then [n] else []) := by
  unfold Zcf; rw [List.range_succ, List.filter_append]; cases h : p n <;> simp [h]
theorem Zm4 (p : Nat → Bool) (n : Nat) : Zhr p (n + 1) = Zhr p n + (if p n = true then 1 else 0) := by
  unfold Zhr; rw [Zki, List.length_append]; cases h : p n <;> simp
theorem Zle {p : Nat → Bool} {i : Nat} : ∀ {n : Nat}, i < n → p i = true → (Zcf p n).getD (Zhr p i) 0 = i ∧ Zhr p i < (Zcf p n).length
 | 0, h, _ => absurd h (by omega)
 | n + 1, h, hp => by
  rw [Zki]
  rcases Nat.lt_or_ge i n with q | q
  ·obtain ⟨h1, h2⟩ := Zle q hp
   refine ⟨?_, by rw [List.length_append]; omega⟩
   rw [List.getD_eq_getElem?_getD, List.getElem?_append_left h2, ← List.getD_eq_getElem?_getD]; exact h1
  ·obtain rfl : i = n := by omega
   rw [if_pos hp]
   refine ⟨?_, by rw [List.length_append]; exact Nat.lt_succ_self _⟩
   show (Zcf p i ++ [i]).getD (Zcf p i).length 0 = i
   rw [List.getD_eq_getElem?_getD, List.getElem?_append_right (Nat.le_refl _), Nat.sub_self]; rfl
theorem Zlf {p : Nat → Bool} {k : Nat} : ∀ {n : Nat}, k < (Zcf p n).length → (Zcf p n).getD k 0 < n ∧ p ((Zcf p n).getD k 0) = true ∧ Zhr p ((Zcf p n).getD k 0) = k
 | 0, h => absurd h (by simp [Zcf])
 | n + 1, h => by
  rw [Zki] at h ⊢
  rcases Nat.lt_or_ge k (Zcf p n).length with q | q
  ·obtain ⟨h1, h2, h3⟩ := Zlf q
   rw [List.getD_eq_getElem?_getD, List.getElem?_append_left q, ← List.getD_eq_getElem?_getD]
   exact ⟨by omega, h2, h3⟩
  ·cases hp : p n with
   | false => rw [hp] at h; simp at h; omega
   | true =>
    rw [if_pos hp, List.length_append] at h
    have e : k = (Zcf p n).length := by simp at h; omega
    subst e
    have e2 : (Zcf p n ++ [n]).getD (Zcf p n).length 0 = n := by
     rw [List.getD_eq_getElem?_getD, List.getElem?_append_right (Nat.le_refl _), Nat.sub_self]; rfl
    rw [if_pos rfl, e2]
    exact ⟨by omega, hp, rfl⟩
theorem Zwr {p : Nat → Bool} {i : Nat} {ok : Nat → Prop} (hp : p i = true) (h : ∀ j, j < Zhr p i → ok j) (h1 : ok (Zhr p i)) : ∀ j, j < Zhr p (i + 1) → ok j := by
 intro j hj
 rw [Zm4, if_pos hp] at hj
 rcases Nat.lt_or_ge j (Zhr p i) with q | q
 ·exact h j q
 ·rw [show j = Zhr p i by omega]; exact h1
theorem Zuw {p : Nat → Bool} {i : Nat} {ok : Nat → Prop} (hp : p i = false) (h : ∀ j, j < Zhr p i → ok j) : ∀ j, j < Zhr p (i + 1) → ok j := by
 intro j hj
 rw [Zm4, if_neg (by rw [hp]; decide)] at hj
 exact h j hj
def usP (l : List Item) (cl : Int) (i : Nat) : Bool := decide ((l.getD i default).entry.kind = 1 ∧ (l.getD i default).entry.client = cl)
def Zx2 (c s : Int) : Nat → List Item → Int × Bool
  | _, [] => (0, false)
  | i, x :: l => if x.entry.kind = 1 ∧ x.entry.client = c ∧ x.entry.seq = s then ((i : Int), true) else Zx2 c s (i + 1) l
def Z1o (l : List Item) (c s : Int) : Int × Bool := Zx2 c s 0 l
def Z07 (c s : Int) (x : Item) : Bool := decide (x.entry.kind = 1 ∧ x.entry.client = c ∧ s ≤ x.entry.seq)
def Ztt (l : List Item) (c s : Int) : Bool := l.any (Z07 c s)
theorem Zr1 {l : List Item} {p : Item → Bool} : l.any p = true ↔ ∃ i, i < l.length ∧ p (l.getD i default) = true := by
 rw [List.any_eq_true]
 constructor
 ·rintro ⟨x, hx, hp⟩
  obtain ⟨i, hi, rfl⟩ := List.getElem_of_mem hx
  exact ⟨i, hi, by rw [List.getD_eq_getElem?_getD, List.getElem?_eq_getElem hi]; exact hp⟩
 ·rintro ⟨i, hi, hp⟩
  rw [List.getD_eq_getElem?_getD, List.getElem?_eq_getElem hi] at hp
  exact ⟨_, List.getElem_mem hi, hp⟩
theorem Zsw {l : List Item} {n k : Nat} {c s : Int} (hn : l.length = n) (hk : k < (Zcf (usP l c) n).length) (h : s ≤ (l.getD ((Zcf (usP l c) n).getD k 0) default).entry.seq) : Ztt l c s = true := by
 obtain ⟨h1, h2, _⟩ := Zlf hk
 have h4 := of_decide_eq_true h2
 exact Zr1.2 ⟨_, by omega, decide_eq_true ⟨h4.1, h4.2, h⟩⟩
theorem Zju {l : List Item} {n : Nat} {c s : Int} (hn : l.length = n) (hall : ∀ k, k < (Zcf (usP l c) n).length → ¬ s ≤ (l.getD ((Zcf (usP l c) n).getD k 0) default).entry.seq) : Ztt l c s = false := by
 cases h : Ztt l c s with
 | false => rfl
 | true =>
  obtain ⟨i, hi, hp⟩ := Zr1.1 h
  have q := of_decide_eq_true hp
  have hu : usP l c i = true := decide_eq_true ⟨q.1, q.2.1⟩
  have h5 := Zle (n := n) (by omega) hu
  have := hall _ h5.2
  rw [h5.1] at this
  exact absurd q.2.2 this
def Zes (l : List Item) (n : Nat) (x : Item) : Int :=
  if ¬ Zec l ∨ ¬ Zb7 x then 100 else if 0 < n ∧ x.epoch < (l.getD (n - 1) default).epoch then 102 else if 2000 ≤ n then 2 else if x.entry.kind ≠ 1 then 0 else if Ztt l x.entry.client x.entry.seq = true then 101 else 0
section
variable {l : List Item} {n : Nat} {x : Item}
theorem Zsr (h : ¬ Zec l ∨ ¬ Zb7 x) : Zes l n x = 100 := if_pos h
theorem Zh4 (h1 : Zec l) (h2 : Zb7 x) : ¬ (¬ Zec l ∨ ¬ Zb7 x) := fun q => q.elim (fun q => q h1) fun q => q h2
theorem Zxk (h1 : Zec l) (h2 : Zb7 x) (h3 : 0 < n) (h4 : x.epoch < (l.getD (n - 1) default).epoch) : Zes l n x = 102 := by
 unfold Zes; rw [if_neg (Zh4 h1 h2), if_pos ⟨h3, h4⟩]
theorem Zz3 (h1 : Zec l) (h2 : Zb7 x) (h3 : ¬ (0 < n ∧ x.epoch < (l.getD (n - 1) default).epoch)) (h4 : 2000 ≤ n) : Zes l n x = 2 := by
 unfold Zes; rw [if_neg (Zh4 h1 h2), if_neg h3, if_pos h4]
theorem Zsq (h1 : Zec l) (h2 : Zb7 x) (h3 : ¬ (0 < n ∧ x.epoch < (l.getD (n - 1) default).epoch)) (h4 : ¬ 2000 ≤ n) (h5 : x.entry.kind ≠ 1) : Zes l n x = 0 := by
 unfold Zes; rw [if_neg (Zh4 h1 h2), if_neg h3, if_neg h4, if_pos h5]
theorem Zss (h1 : Zec l) (h2 : Zb7 x) (h3 : ¬ (0 < n ∧ x.epoch < (l.getD (n - 1) default).epoch)) (h4 : ¬ 2000 ≤ n) (h5 : x.entry.kind = 1) (h6 : Ztt l x.entry.client x.entry.seq = true) : Zes l n x = 101 := by
 unfold Zes; rw [if_neg (Zh4 h1 h2), if_neg h3, if_neg h4, if_neg (fun q => q h5), if_pos h6]
theorem Zlb (h1 : Zec l) (h2 : Zb7 x) (h3 : ¬ (0 < n ∧ x.epoch < (l.getD (n - 1) default).epoch)) (h4 : ¬ 2000 ≤ n) (h5 : x.entry.kind = 1) (h6 : Ztt l x.entry.client x.entry.seq = false) : Zes l n x = 0 := by
 unfold Zes; rw [if_neg (Zh4 h1 h2), if_neg h3, if_neg h4, if_neg (fun q => q h5), if_neg (by rw [h6]; decide)]
end
theorem Zqn (l : List Item) (n c : Nat) (hn : l.length = n) (hc : n ≤ c) (hb : n ≤ 1048576) (cl : Int) : Zas Try.prog G 65 [slv 0 0 n c, Iv cl] [rwR Zk l] (.func (.func 71) #[] #[pt 1 0, pt 2 0]) [rwR Zk l, rfB (slv 0 0 n c), bxB 1 ([Iv cl])] := by
 refine Zcv (fn := Try.f65) (nt := 6) rfl rfl rfl rfl ?_
 refine Zbq 2 (H' := [rwR Zk l, hole, hole]) rfl ?_
 refine Zj (Zl (Zbw (v := slv 0 0 n c) (b := rfB (slv 0 0 n c)) (nid := 1) (H' := [rwR Zk l, rfB (slv 0 0 n c), hole]) (Zbw (v := Iv cl) (b := bxB 1 ([Iv cl])) (nid := 2) (H' := [rwR Zk l, rfB (slv 0 0 n c), bxB 1 ([Iv cl])]) (Zc .nilFunc (Ze (Zf (Zj (Zl ?_))))))))
 refine Znn (vs := []) (ws := [pt 1 0, pt 2 0]) rfl rfl rfl rfl rfl ?_
 refine Zc (.func (.func 71) #[] #[pt 1 0, pt 2 0]) (Ze (Zf (Zq (Zp ?_))))
 exact Zbe [0, 1, 2] (v := .func (.func 71) #[] #[pt 1 0, pt 2 0]) rfl (by kernel_rfl) rfl rfl (by decide) (by simp [Zcl, rwR, rfB, bxB, Zpv, Zhk, Zk]) ⟨by simp [Zfq, Zde, Zit, idE], by kernel_rfl⟩
theorem Zs2 (l : List Item) (n c : Nat) (hn : l.length = n) (hc : n ≤ c) (hb : n ≤ 1048576) (x : Item) (ok : Nat → Prop) : Zuf Try.prog G 71 [pt 3 0, pt 4 0] (Zcf (usP l x.entry.client) n).length (fun k => [Iv ((Zcf (usP l x.entry.client) n).getD k 0 : Nat), Zdc (l.getD ((Zcf (usP l x.entry.client) n).getD k 0) default).entry]) [rwR Zk l, bxB 110 (Zt x), bxB 1 ([Iv 0]), rfB (slv 0 0 n c), bxB 1 ([Iv x.entry.client])] (fun k => [rwR Zk l, bxB 110 (Zt x), bxB 1 ([Iv 0]), rfB (slv 0 0 n c), bxB 1 ([Iv x.entry.client]), bxB 110 (Zt (l.getD ((Zcf (usP l x.entry.client) n).getD k 0) default))]) (fun k => [rwR Zk l, bxB 110 (Zt x), bxB 1 ([Iv 0]), rfB (slv 0 0 n c), bxB 1 ([Iv x.entry.client]), bxB 110 (Zt (l.getD ((Zcf (usP l x.entry.client) n).getD k 0) default))]) ok [rwR Zk l, bxB 110 (Zt x), bxB 1 ([Iv 0]), rfB (slv 0 0 n c), bxB 1 ([Iv x.entry.client])] := by
 refine Zq1 (fn := Try.f71) rfl rfl (nt := 33) rfl rfl rfl ?_
 intro E l' Stop hE hd hY
 refine Zi0 ?_
 refine Zhs (by kernel_rfl) ?_
 refine Zcp (p := pt 3 0) (v := slv 0 0 n c) rfl rfl rfl rfl ?_
 refine Zba (p := slv 0 0 n c) (v := Iv (n : Nat)) (Zb (Iv 0) (Ze (Zab (Zpa ?_))))
 refine Zww hE (fun i : Nat => [.func (.yield l') #[] #[], pt 3 0, pt 4 0, dead, dead, dead, slv 0 0 n c, Iv (n : Nat), Iv (i : Nat)]) (fun i : Nat => [rwR Zk l, bxB 110 (Zt x), bxB 1 ([Iv 0]), rfB (slv 0 0 n c), bxB 1 ([Iv x.entry.client])]) (fun i : Nat => (∀ j, j < Zhr (usP l x.entry.client) i → ok j) ∧ i ≤ n) (fun i : Nat => n - i) 0 ⟨fun _ h => absurd h (by simp [Zhr, Zcf]), by omega⟩ ?_ ?_
 ·refine Zbz (n := 5) rfl ?_ (by kernel_rfl) (by kernel_rfl)
  repeat (first | exact trivial | refine ⟨.inl rfl, ?_⟩ | refine ⟨.inr ⟨rfl, rfl⟩, ?_⟩ | refine ⟨.inr ⟨congrArg (Value.int .i64) (by first | omega | (dsimp only; omega)), rfl⟩, ?_⟩)
 rintro i ⟨hks, hi⟩
 refine Zwv hE 1 (H' := [rwR Zk l, bxB 110 (Zt x), bxB 1 ([Iv 0]), rfB (slv 0 0 n c), bxB 1 ([Iv x.entry.client]), hole]) rfl ?_
 refine Zi0 ?_
 refine Zhs (by kernel_rfl) ?_
 by_cases h1 : (i : Nat) < (n : Nat)
 refine Zn (vx := Iv (i : Nat)) (vy := Iv (n : Nat)) rfl rfl (.bool true) rfl rfl (Zfg (by omega)) ?_
 refine Ze (Zab (Zi0 (Zwx rfl (Zk9 (Zab (Zi0 (Zpa (Zi0 ?_))))))))
 refine Zhs (by kernel_rfl) ?_
 refine Zb (Iv (i : Nat)) ?_
 refine Zd0 (b := 0) (o := 0) (j := i * 110) (m := n) (c := c) (sz := 110) (i := (i : Nat)) (k := .i64) rfl rfl rfl rfl rfl (by omega) (by omega) (by omega) ?_
 refine Zcp (p := pt 0 (i * 110)) (v := Zan (l.getD i default)) rfl rfl rfl (Zei (n := 0) (m := 110) Zk rfl rfl rfl rfl (by have := hn; omega) (by omega)) ?_
 refine Za4 (b := bxB 110 (Zt (⟨0, (⟨0, 0, 0, ⟨#[]⟩, (⟨(⟨0, 0, 0, dz, 0⟩ : Head), 0, dz⟩ : Signed), (⟨0, 0, 0, 0, dz⟩ : Claim)⟩ : Entry)⟩ : Item))) (nid := 5) (H' := [rwR Zk l, bxB 110 (Zt x), bxB 1 ([Iv 0]), rfB (slv 0 0 n c), bxB 1 ([Iv x.entry.client]), bxB 110 (Zt (⟨0, (⟨0, 0, 0, ⟨#[]⟩, (⟨(⟨0, 0, 0, dz, 0⟩ : Head), 0, dz⟩ : Signed), (⟨0, 0, 0, 0, dz⟩ : Claim)⟩ : Entry)⟩ : Item))]) (Zc (Iv (i : Nat)) (Zy (p := pt 5 0) (v := Zan (l.getD i default)) (b := 5) (blk := bxB 110 (Zt (l.getD i default))) (H' := [rwR Zk l, bxB 110 (Zt x), bxB 1 ([Iv 0]), rfB (slv 0 0 n c), bxB 1 ([Iv x.entry.client]), bxB 110 (Zt (l.getD i default))]) (Ze (Zab (Zi0 ?_)))))
 by_cases h2 : (((l.getD i default).entry).kind) = 1
 by_cases h3 : (((l.getD i default).entry).client) = x.entry.client
 have hlt : i < n := by omega
 have hp : (usP l x.entry.client) i = true := decide_eq_true ⟨by omega, by omega⟩
 refine Ztc (fun w' h => ⟨w', h, rfl⟩) 16 rfl rfl rfl (by kernel_rfl) ?_
 refine Zd (b := 5) (o := 0) (n := 1) (o' := 1) (Zd (b := 5) (o := 1) (n := 0) (o' := 1) (Zi (p := pt 5 1) (v := Iv (((l.getD i default).entry).kind)) ?_))
 refine Zn (vx := Iv (((l.getD i default).entry).kind)) (vy := Iv 1) rfl rfl (.bool true) rfl rfl (Zav (by omega)) ?_
 refine Zb (.bool true) (Zd (b := 5) (o := 0) (n := 1) (o' := 1) (Zd (b := 5) (o := 1) (n := 1) (o' := 2) (Zi (p := pt 5 2) (v := Iv (((l.getD i default).entry).client)) (Zi (p := pt 4 0) (v := Iv x.entry.client) ?_))))
 refine Zn (vx := Iv (((l.getD i default).entry).client)) (vy := Iv x.entry.client) rfl rfl (.bool true) rfl rfl (Zav (by omega)) ?_
 refine Zg (.bool true) (Zb (.bool true) (Zb (.func (.yield l') #[] #[]) (Zb (Iv (i : Nat)) (Zd (b := 5) (o := 0) (n := 1) (o' := 1) (Zi (p := pt 5 1) (v := Zdc ((l.getD i default).entry)) ?_)))))
 refine Zoq ?_
 show Zn0 _ _ _ _ _ _ _ _ _ _ _ _ _ _
 unfold Zn0
 refine ⟨l', [Iv (i : Nat), Zdc ((l.getD i default).entry)], [rwR Zk l, bxB 110 (Zt x), bxB 1 ([Iv 0]), rfB (slv 0 0 n c), bxB 1 ([Iv x.entry.client]), bxB 110 (Zt (l.getD i default))], (ok (Zhr (usP l x.entry.client) i)), rfl, rfl, rfl, by decide, (by have h := hY (Zhr (usP l x.entry.client) i) (Zle hlt hp).2 hks; rw [(Zle hlt hp).1] at h; exact h), fun hok => ?_, ?_⟩
 refine Zd1 (vx := .bool true) rfl rfl (.bool false) rfl Zbl ?_
 refine Zg (.bool false) (Ze (Zab (Zjf rfl (Zk9 (Z1 (Zab ?_))))))
 refine Zhs (by kernel_rfl) ?_
 refine Zn (vx := Iv (i : Nat)) (vy := Iv 1) rfl rfl (Iv ((i : Nat) + 1)) rfl rfl (Zci (by omega) (by omega) (by omega)) ?_
 refine Zb (Iv ((i : Nat) + 1)) (Ze ?_)
 refine Zab ⟨(i + 1), ⟨Zwr (by exact decide_eq_true ⟨by omega, by omega⟩) hks hok, by omega⟩, by show n - (i + 1) < n - i; omega, ?_⟩
 refine Zbz (n := 5) rfl ?_ (by kernel_rfl) (by kernel_rfl)
 repeat (first | exact trivial | refine ⟨.inl rfl, ?_⟩ | refine ⟨.inr ⟨rfl, rfl⟩, ?_⟩ | refine ⟨.inr ⟨congrArg (Value.int .i64) (by first | omega | (dsimp only; omega)), rfl⟩, ?_⟩)
 refine Zd1 (vx := .bool false) rfl rfl (.bool true) rfl Zbl ?_
 refine Zg (.bool true) (Ze (Zab (Zfp rfl (Zf2 (Zag (Zca (Zca (Zag ?_))))))))
 exact ⟨.inr rfl⟩
 refine Zhs (by kernel_rfl) ?_
 refine Zd (b := 5) (o := 0) (n := 1) (o' := 1) (Zd (b := 5) (o := 1) (n := 0) (o' := 1) (Zi (p := pt 5 1) (v := Iv (((l.getD i default).entry).kind)) ?_))
 refine Zn (vx := Iv (((l.getD i default).entry).kind)) (vy := Iv 1) rfl rfl (.bool true) rfl rfl (Zav (by omega)) ?_
 refine Zb (.bool true) (Zd (b := 5) (o := 0) (n := 1) (o' := 1) (Zd (b := 5) (o := 1) (n := 1) (o' := 2) (Zi (p := pt 5 2) (v := Iv (((l.getD i default).entry).client)) (Zi (p := pt 4 0) (v := Iv x.entry.client) ?_))))
 refine Zn (vx := Iv (((l.getD i default).entry).client)) (vy := Iv x.entry.client) rfl rfl (.bool false) rfl rfl (Zbb (by omega)) ?_
 refine Zg (.bool false) (Zb (.bool false) (Za (Za (Za (Za (Za (Za (Zg (.bool false) (Ze (Zab (Zjf rfl (Zk9 (Z1 (Zab ?_))))))))))))))
 refine Zhs (by kernel_rfl) ?_
 refine Zn (vx := Iv (i : Nat)) (vy := Iv 1) rfl rfl (Iv ((i : Nat) + 1)) rfl rfl (Zci (by omega) (by omega) (by omega)) ?_
 refine Zb (Iv ((i : Nat) + 1)) (Ze ?_)
 refine Zab ⟨(i + 1), ⟨Zuw (by exact decide_eq_false (fun q => by have := q.1; have := q.2; omega)) hks, by omega⟩, by show n - (i + 1) < n - i; omega, ?_⟩
 refine Zbz (n := 5) rfl ?_ (by kernel_rfl) (by kernel_rfl)
 repeat (first | exact trivial | refine ⟨.inl rfl, ?_⟩ | refine ⟨.inr ⟨rfl, rfl⟩, ?_⟩ | refine ⟨.inr ⟨congrArg (Value.int .i64) (by first | omega | (dsimp only; omega)), rfl⟩, ?_⟩)
 refine Zhs (by kernel_rfl) ?_
 refine Zd (b := 5) (o := 0) (n := 1) (o' := 1) (Zd (b := 5) (o := 1) (n := 0) (o' := 1) (Zi (p := pt 5 1) (v := Iv (((l.getD i default).entry).kind)) ?_))
 refine Zn (vx := Iv (((l.getD i default).entry).kind)) (vy := Iv 1) rfl rfl (.bool false) rfl rfl (Zbb (by omega)) ?_
 refine Zb (.bool false) (Za (Za (Za (Za (Za (Zg (.bool false) (Zb (.bool false) (Za (Za (Za (Za (Za (Za (Zg (.bool false) (Ze (Zab (Zjf rfl (Zk9 (Z1 (Zab ?_))))))))))))))))))))
 refine Zhs (by kernel_rfl) ?_
 refine Zn (vx := Iv (i : Nat)) (vy := Iv 1) rfl rfl (Iv ((i : Nat) + 1)) rfl rfl (Zci (by omega) (by omega) (by omega)) ?_
 refine Zb (Iv ((i : Nat) + 1)) (Ze ?_)
 refine Zab ⟨(i + 1), ⟨Zuw (by exact decide_eq_false (fun q => by have := q.1; have := q.2; omega)) hks, by omega⟩, by show n - (i + 1) < n - i; omega, ?_⟩
 refine Zbz (n := 5) rfl ?_ (by kernel_rfl) (by kernel_rfl)
 repeat (first | exact trivial | refine ⟨.inl rfl, ?_⟩ | refine ⟨.inr ⟨rfl, rfl⟩, ?_⟩ | refine ⟨.inr ⟨congrArg (Value.int .i64) (by first | omega | (dsimp only; omega)), rfl⟩, ?_⟩)
 refine Zn (vx := Iv (i : Nat)) (vy := Iv (n : Nat)) rfl rfl (.bool false) rfl rfl (Zff (by omega)) ?_
 refine Ze (Zab (Zi0 (Zjf rfl (Zwu (Zeh (Zeh (Zfw rfl ?_)))))))
 exact ⟨⟨.inl rfl, fun j hj => hks j (by rw [show i = n by omega]; exact hj), _, Zbz (l := []) (n := 5) rfl trivial (by kernel_rfl) (by kernel_rfl)⟩⟩
abbrev Y1 (x : Item) : Blk := bxB 1 ([Iv x.entry.client])
theorem Zyh (l : List Item) (n c : Nat) (hn : l.length = n) (hc : n ≤ c) (hb : n ≤ 1048576) (x : Item) : Zas Try.prog G 53 [slv 0 0 n c, Zan x] [rwR Zk l] (Iv (Zes l n x)) [rwR Zk l] := by
  refine Zas.introM (fn := Try.f53) rfl rfl (nt := 54) rfl rfl ?_
  refine Zj8 (Zn8 ?_)
  refine Zn9 4 (H' := [rwR Zk l, hole, hole, hole, hole]) rfl ?_
  refine Zcy (by kernel_rfl) ?_
  refine Zbw (v := Zan x) (b := bxB 110 (Zt x)) (nid := 1) (H' := [rwR Zk l, bxB 110 (Zt x), hole, hole, hole]) (Za4 (b := bxB 1 ([Iv 0])) (nid := 2) (H' := [rwR Zk l, bxB 110 (Zt x), bxB 1 ([Iv 0]), hole, hole]) (Ze (Zab (Zj8 (Zn8 (Zlm (Zdr ?_)))))))
  refine Zcy (by kernel_rfl) ?_
  refine Zb (slv 0 0 n c) ?_
  refine Z2 (e := [some (0, 0)]) (nid := 0) (Zif (G := G) l n c hn (by omega) (by omega)) (vals := [slv 0 0 n c]) (v := Iv (Zfo l)) (H' := [rwR Zk l, bxB 110 (Zt x), bxB 1 ([Iv 0]), hole, hole]) rfl rfl rfl rfl rfl rfl rfl ⟨⟨⟨rfl, rfl, rfl, by first | omega | exact Nat.le_refl _, by first | omega | exact Nat.le_refl _⟩, trivial⟩, ⟨(Zae rfl), trivial⟩, rfl, rfl, rfl⟩ rfl (by kernel_rfl) ?_
  by_cases h1 : (Zfo l) ≠ 0
  refine Zn (vx := Iv (Zfo l)) (vy := Iv 0) rfl rfl (.bool true) rfl rfl (Zc3 (by omega)) ?_
  refine Zb (.bool true) (Za (Za (Za (Zg (.bool true) (Zc (.bool true) (Ze (Zab (Zfp rfl (Zdr ?_)))))))))
  refine Zcy (by kernel_rfl) ?_
  refine Zy (p := pt 2 0) (v := Iv 100) (b := 2) (blk := bxB 1 ([Iv 100])) (H' := [rwR Zk l, bxB 110 (Zt x), bxB 1 ([Iv 100]), hole, hole]) (Ze (Zab (Zf2 (Zag (Zca (Zp ?_))))))
  rw [show Zes l n x = 100 from Zsr (by first | exact .inl (Zai (by omega)) | exact .inl (of_decide_eq_false (by assumption)) | exact .inr (of_decide_eq_false (by assumption)))]
  exact Zbe [0] (v := Iv 100) rfl (by kernel_rfl) rfl rfl (by decide) (by simp [Zcl, rwR, Zk]) rfl
  refine Zn (vx := Iv (Zfo l)) (vy := Iv 0) rfl rfl (.bool false) rfl rfl (Zbk (by omega)) ?_
  refine Zb (.bool false) (Zi (p := pt 1 0) (v := Zan x) ?_)
  refine Zs (Zqa (G := G) x) (vals := [Zan x]) (res' := .bool (decide (Zb7 x))) rfl rfl rfl rfl rfl rfl ?_
  rcases Bool.eq_false_or_eq_true (decide (Zb7 x)) with h2 | h2
  refine Zd1 (vx := .bool (decide (Zb7 x))) rfl rfl (.bool false) rfl (Eq.trans Zbl (congrArg (fun b => some (Value.bool !b)) h2)) ?_
  refine Zg (.bool false) (Zc (.bool false) (Ze (Zab (Zev rfl (Zdr ?_)))))
  refine Zws (by kernel_rfl) (by kernel_rfl) ?_
  refine Zb (slv 0 0 n c) (Zba (p := slv 0 0 n c) (v := Iv (n : Nat)) ?_)
  by_cases h3 : 0 < (n : Nat)
  refine Zn (vx := Iv (n : Nat)) (vy := Iv 0) rfl rfl (.bool true) rfl rfl (Zhz (by omega)) ?_
  refine Zb (.bool true) (Zd (b := 1) (o := 0) (n := 0) (o' := 0) (Zi (p := pt 1 0) (v := Iv x.epoch) (Zb (slv 0 0 n c) (Zb (slv 0 0 n c) (Zba (p := slv 0 0 n c) (v := Iv (n : Nat)) ?_)))))
  refine Zn (vx := Iv (n : Nat)) (vy := Iv 1) rfl rfl (Iv ((n : Nat) - 1)) rfl rfl (Zk4 (by omega) (by omega) (by omega)) ?_
  refine Zd0 (b := 0) (o := 0) (j := (n - 1) * 110) (m := n) (c := c) (sz := 110) (i := (n : Nat) - 1) (k := .i64) rfl rfl rfl rfl rfl (by omega) (by omega) (by omega) ?_
  refine Zbu (b := 0) (o := (n - 1) * 110) (n := 0) (o' := (n - 1) * 110) rfl rfl rfl rfl (by omega) ?_
  refine Zcp (p := pt 0 ((n - 1) * 110)) (v := Iv ((l.getD (n - 1) default).epoch)) rfl rfl rfl (Zii Zk (l := l) (i := n - 1) (k := 0) (m := 110) rfl rfl rfl rfl (by have := hn; omega) (by omega) (by kernel_rfl) rfl) ?_
  by_cases h4 : x.epoch < ((l.getD (n - 1) default).epoch)
  refine Zn (vx := Iv x.epoch) (vy := Iv ((l.getD (n - 1) default).epoch)) rfl rfl (.bool true) rfl rfl (Zfg (by omega)) ?_
  refine Zg (.bool true) (Zc (.bool true) ?_)
  refine Zbh (Zar [[], [0], [0, 1], [0, 1, 2], [0, 1, 2, 3], [0, 1, 2, 3, 4], [0, 1, 2, 3], [0, 1, 2, 3], [0, 1, 2, 3, 7], [0, 1, 2, 3, 7, 8], [0, 1, 2, 3, 6, 7, 8, 9], [0, 1, 2, 3, 6, 7, 8, 9, 10], [0, 1, 2, 3, 6, 7, 8, 9, 10, 11], [0, 1, 2, 3, 4, 5, 6, 7, 8, 9, 10, 11, 12], [0, 1, 2, 3, 4, 5, 6, 7, 8, 9, 10, 11, 12, 13], [0, 1, 2, 3, 4, 5, 6, 7, 8, 9, 10, 11, 12, 13, 14]] (by kernel_rfl) (by kernel_rfl)) ?_
  refine Zab (Zfp rfl (Zdr ?_))
  refine Zcy (by kernel_rfl) ?_
  refine Zy (p := pt 2 0) (v := Iv 102) (b := 2) (blk := bxB 1 ([Iv 102])) (H' := [rwR Zk l, bxB 110 (Zt x), bxB 1 ([Iv 102]), hole, hole]) (Ze (Zab (Zf2 (Zag (Zca (Zp ?_))))))
  rw [show Zes l n x = 102 from Zxk (by first | exact Zbv (by omega) | exact of_decide_eq_true (by assumption)) (of_decide_eq_true (by assumption)) (by omega) (by omega)]
  exact Zbe [0] (v := Iv 102) rfl (by kernel_rfl) rfl rfl (by decide) (by simp [Zcl, rwR, Zk]) rfl
  refine Zn (vx := Iv x.epoch) (vy := Iv ((l.getD (n - 1) default).epoch)) rfl rfl (.bool false) rfl rfl (Zff (by omega)) ?_
  refine Zg (.bool false) (Zc (.bool false) ?_)
  refine Zbh (Zar [[], [0], [0, 1], [0, 1, 2], [0, 1, 2, 3], [0, 1, 2, 3, 4], [0, 1, 2, 3], [0, 1, 2, 3], [0, 1, 2, 3, 7], [0, 1, 2, 3, 7, 8], [0, 1, 2, 3, 6, 7, 8, 9], [0, 1, 2, 3, 6, 7, 8, 9, 10], [0, 1, 2, 3, 6, 7, 8, 9, 10, 11], [0, 1, 2, 3, 4, 5, 6, 7, 8, 9, 10, 11, 12], [0, 1, 2, 3, 4, 5, 6, 7, 8, 9, 10, 11, 12, 13], [0, 1, 2, 3, 4, 5, 6, 7, 8, 9, 10, 11, 12, 13, 14]] (by kernel_rfl) (by kernel_rfl)) ?_
  refine Zab (Zev rfl (Zdr ?_))
  refine Zcy (by kernel_rfl) ?_
  refine Zb (slv 0 0 n c) (Zba (p := slv 0 0 n c) (v := Iv (n : Nat)) ?_)
  by_cases h5 : 2000 ≤ (n : Nat)
  refine Zn (vx := Iv (n : Nat)) (vy := Iv 2000) rfl rfl (.bool true) rfl rfl (Zhw (by omega)) ?_
  refine Zc (.bool true) (Ze (Zab (Zfp rfl (Zdr ?_))))
  refine Zcy (by kernel_rfl) ?_
  refine Zy (p := pt 2 0) (v := Iv 2) (b := 2) (blk := bxB 1 ([Iv 2])) (H' := [rwR Zk l, bxB 110 (Zt x), bxB 1 ([Iv 2]), hole, hole]) (Ze (Zab (Zf2 (Zag (Zca (Zp ?_))))))
  rw [show Zes l n x = 2 from Zz3 (by first | exact Zbv (by omega) | exact of_decide_eq_true (by assumption)) (of_decide_eq_true (by assumption)) (fun q => by have := q.1; have := q.2; omega) (by omega)]
  exact Zbe [0] (v := Iv 2) rfl (by kernel_rfl) rfl rfl (by decide) (by simp [Zcl, rwR, Zk]) rfl
  refine Zn (vx := Iv (n : Nat)) (vy := Iv 2000) rfl rfl (.bool false) rfl rfl (Zjl (by omega)) ?_
  refine Zc (.bool false) (Ze (Zab (Zev rfl (Zdr ?_))))
  refine Zcy (by kernel_rfl) ?_
  refine Zd (b := 1) (o := 0) (n := 1) (o' := 1) (Zd (b := 1) (o := 1) (n := 0) (o' := 1) (Zi (p := pt 1 1) (v := Iv x.entry.kind) ?_))
  by_cases h6 : x.entry.kind ≠ 1
  refine Zn (vx := Iv x.entry.kind) (vy := Iv 1) rfl rfl (.bool true) rfl rfl (Zc3 (by omega)) ?_
  refine Zc (.bool true) (Ze (Zab (Zfp rfl (Zdr ?_))))
  refine Zcy (by kernel_rfl) ?_
  refine Zy (p := pt 2 0) (v := Iv 0) (b := 2) (blk := bxB 1 ([Iv 0])) (H' := [rwR Zk l, bxB 110 (Zt x), bxB 1 ([Iv 0]), hole, hole]) (Ze (Zab (Zf2 (Zag (Zca (Zp ?_))))))
  rw [show Zes l n x = 0 from (by first | exact Zsq (by first | exact Zbv (by omega) | exact of_decide_eq_true (by assumption)) (of_decide_eq_true (by assumption)) (fun q => by have := q.1; have := q.2; omega) (by omega) (by omega) | exact Zlb (by first | exact Zbv (by omega) | exact of_decide_eq_true (by assumption)) (of_decide_eq_true (by assumption)) (fun q => by have := q.1; have := q.2; omega) (by omega) (by omega) (Zju hn hall))]
  exact Zbe [0] (v := Iv 0) rfl (by kernel_rfl) rfl rfl (by decide) (by simp [Zcl, rwR, Zk]) rfl
  refine Zn (vx := Iv x.entry.kind) (vy := Iv 1) rfl rfl (.bool false) rfl rfl (Zbk (by omega)) ?_
  refine Zc (.bool false) (Ze (Zab (Zev rfl (Zk8 (Z1 (Zab (Zj8 (Zj8 (Zn8 ?_)))))))))
  refine Zcy (by kernel_rfl) ?_
  refine Zb (slv 0 0 n c) (Zd (b := 1) (o := 0) (n := 1) (o' := 1) (Zd (b := 1) (o := 1) (n := 1) (o' := 2) (Zi (p := pt 1 2) (v := Iv x.entry.client) ?_)))
  refine Z2 (e := [some (0, 0)]) (nid := 3) (Zqn (G := G) l n c hn (by omega) (by omega) x.entry.client) (vals := [slv 0 0 n c, Iv x.entry.client]) (v := .func (.func 71) #[] #[pt 3 0, pt 4 0]) (H' := [rwR Zk l, bxB 110 (Zt x), bxB 1 ([Iv 0]), rfB (slv 0 0 n c), Y1 x]) rfl rfl rfl rfl rfl rfl rfl ⟨⟨⟨rfl, rfl, rfl, by first | omega | exact Nat.le_refl _, by first | omega | exact Nat.le_refl _⟩, rfl, trivial⟩, ⟨(Zae rfl), trivial⟩, rfl, rfl, rfl⟩ (by kernel_rfl) (by kernel_rfl) ?_
  refine Ze (Zab ?_)
  have hiter := Zs2 (G := G) l n c hn hc hb x (fun k => ¬ x.entry.seq ≤ (l.getD ((Zcf (usP l x.entry.client) n).getD k 0) default).entry.seq)
  refine Zo6 (lbs := #[pt 3 0, pt 4 0]) (iter := hiter) rfl rfl rfl (by intro _ _; rfl) (by kernel_rfl) ?_ ?_
  · intro lp k hk hks
    have hku := Zlf hk
    refine Zn9 2 (H' := [rwR Zk l, bxB 110 (Zt x), bxB 1 ([Iv 0]), rfB (slv 0 0 n c), Y1 x, bxB 110 (Zt (l.getD ((Zcf (usP l x.entry.client) n).getD k 0) default)), hole, hole]) rfl ?_
    refine Zcy (by kernel_rfl) ?_
    refine Za4 (b := bxB 109 (Zdb (⟨0, 0, 0, ⟨#[]⟩, (⟨(⟨0, 0, 0, dz, 0⟩ : Head), 0, dz⟩ : Signed), (⟨0, 0, 0, 0, dz⟩ : Claim)⟩ : Entry))) (nid := 6) (H' := [rwR Zk l, bxB 110 (Zt x), bxB 1 ([Iv 0]), rfB (slv 0 0 n c), Y1 x, bxB 110 (Zt (l.getD ((Zcf (usP l x.entry.client) n).getD k 0) default)), bxB 109 (Zdb (⟨0, 0, 0, ⟨#[]⟩, (⟨(⟨0, 0, 0, dz, 0⟩ : Head), 0, dz⟩ : Signed), (⟨0, 0, 0, 0, dz⟩ : Claim)⟩ : Entry)), hole]) (Zy (p := pt 6 0) (v := Zdc ((l.getD ((Zcf (usP l x.entry.client) n).getD k 0) default).entry)) (b := 6) (blk := bxB 109 (Zdb ((l.getD ((Zcf (usP l x.entry.client) n).getD k 0) default).entry))) (H' := [rwR Zk l, bxB 110 (Zt x), bxB 1 ([Iv 0]), rfB (slv 0 0 n c), Y1 x, bxB 110 (Zt (l.getD ((Zcf (usP l x.entry.client) n).getD k 0) default)), bxB 109 (Zdb ((l.getD ((Zcf (usP l x.entry.client) n).getD k 0) default).entry)), hole]) (Ze (Zab (Zlm (Zdr ?_)))))
    refine Zcy (by kernel_rfl) ?_
    refine Zd (b := 6) (o := 0) (n := 2) (o' := 2) (Zi (p := pt 6 2) (v := Iv (((l.getD ((Zcf (usP l x.entry.client) n).getD k 0) default).entry).seq)) (Zd (b := 1) (o := 0) (n := 1) (o' := 1) (Zd (b := 1) (o := 1) (n := 2) (o' := 3) (Zi (p := pt 1 3) (v := Iv x.entry.seq) ?_))))
    by_cases h7 : x.entry.seq ≤ (((l.getD ((Zcf (usP l x.entry.client) n).getD k 0) default).entry).seq)
    refine Zn (vx := Iv (((l.getD ((Zcf (usP l x.entry.client) n).getD k 0) default).entry).seq)) (vy := Iv x.entry.seq) rfl rfl (.bool true) rfl rfl (Zhw (by omega)) ?_
    refine Ze (Zab (Zfp rfl (Zdr ?_)))
    refine Zcy (by kernel_rfl) ?_
    refine Zy (p := pt 2 0) (v := Iv 101) (b := 2) (blk := bxB 1 ([Iv 101])) (H' := [rwR Zk l, bxB 110 (Zt x), bxB 1 ([Iv 101]), rfB (slv 0 0 n c), Y1 x, bxB 110 (Zt (l.getD ((Zcf (usP l x.entry.client) n).getD k 0) default)), bxB 109 (Zdb ((l.getD ((Zcf (usP l x.entry.client) n).getD k 0) default).entry)), hole]) (Ze (Zab (Zf2 (Zag ?_))))
    refine ⟨?_⟩
    show ∃ v e, EndOK _ _ _ _ _ _ _ v e
    rw [show Zes l n x = 101 from Zss (by first | exact Zbv (by omega) | exact of_decide_eq_true (by assumption)) (of_decide_eq_true (by assumption)) (fun q => by have := q.1; have := q.2; omega) (by omega) (by omega) (Zsw hn hk (by omega))]
    exact Zbe [0] (v := Iv 101) rfl (by kernel_rfl) rfl rfl (by decide) (by simp [Zcl, rwR, Zk]) rfl
    refine Zn (vx := Iv (((l.getD ((Zcf (usP l x.entry.client) n).getD k 0) default).entry).seq)) (vy := Iv x.entry.seq) rfl rfl (.bool false) rfl rfl (Zjl (by omega)) ?_
    refine Ze (Zab (Zev rfl (Zk8 (Z1 ?_))))
    exact ⟨⟨(by show ¬ _ ≤ _; omega), _, Zbz (l := []) (n := 6) rfl trivial (by kernel_rfl) (by kernel_rfl)⟩⟩
  intro hall
  show CW none _ _ _ _ _ _ _
  refine Zdr ?_
  refine Zcy (by kernel_rfl) ?_
  refine Zy (p := pt 2 0) (v := Iv 0) (b := 2) (blk := bxB 1 ([Iv 0])) (H' := [rwR Zk l, bxB 110 (Zt x), bxB 1 ([Iv 0]), rfB (slv 0 0 n c), Y1 x]) (Ze (Zab (Zf2 (Zca (Zp ?_)))))
  rw [show Zes l n x = 0 from (by first | exact Zsq (by first | exact Zbv (by omega) | exact of_decide_eq_true (by assumption)) (of_decide_eq_true (by assumption)) (fun q => by have := q.1; have := q.2; omega) (by omega) (by omega) | exact Zlb (by first | exact Zbv (by omega) | exact of_decide_eq_true (by assumption)) (of_decide_eq_true (by assumption)) (fun q => by have := q.1; have := q.2; omega) (by omega) (by omega) (Zju hn hall))]
  exact Zbe [0] (v := Iv 0) rfl (by kernel_rfl) rfl rfl (by decide) (by simp [Zcl, rwR, Zk]) rfl
  refine Zn (vx := Iv (n : Nat)) (vy := Iv 0) rfl rfl (.bool false) rfl rfl (Zhy (by omega)) ?_
  refine Zb (.bool false) (Za (Za (Za (Za (Za (Za (Za (Za (Za (Za (Zg (.bool false) (Zc (.bool false) ?_))))))))))))
  refine Zbh (Zar [[], [0], [0, 1], [0, 1, 2], [0, 1, 2, 3], [0, 1, 2, 3, 4], [0, 1, 2, 3], [0, 1, 2, 3], [0, 1, 2, 3, 7], [0, 1, 2, 3, 7, 8], [0, 1, 2, 3, 6, 7, 8, 9], [0, 1, 2, 3, 6, 7, 8, 9, 10], [0, 1, 2, 3, 6, 7, 8, 9, 10, 11], [0, 1, 2, 3, 4, 5, 6, 7, 8, 9, 10, 11, 12], [0, 1, 2, 3, 4, 5, 6, 7, 8, 9, 10, 11, 12, 13], [0, 1, 2, 3, 4, 5, 6, 7, 8, 9, 10, 11, 12, 13, 14]] (by kernel_rfl) (by kernel_rfl)) ?_
  refine Zab (Zev rfl (Zdr ?_))
  refine Zcy (by kernel_rfl) ?_
  refine Zb (slv 0 0 n c) (Zba (p := slv 0 0 n c) (v := Iv (n : Nat)) ?_)
  refine Zn (vx := Iv (n : Nat)) (vy := Iv 2000) rfl rfl (.bool false) rfl rfl (Zjl (by omega)) ?_
  refine Zc (.bool false) (Ze (Zab (Zev rfl (Zdr ?_))))
  refine Zcy (by kernel_rfl) ?_
  refine Zd (b := 1) (o := 0) (n := 1) (o' := 1) (Zd (b := 1) (o := 1) (n := 0) (o' := 1) (Zi (p := pt 1 1) (v := Iv x.entry.kind) ?_))
  by_cases h8 : x.entry.kind ≠ 1
  refine Zn (vx := Iv x.entry.kind) (vy := Iv 1) rfl rfl (.bool true) rfl rfl (Zc3 (by omega)) ?_
  refine Zc (.bool true) (Ze (Zab (Zfp rfl (Zdr ?_))))
  refine Zcy (by kernel_rfl) ?_
  refine Zy (p := pt 2 0) (v := Iv 0) (b := 2) (blk := bxB 1 ([Iv 0])) (H' := [rwR Zk l, bxB 110 (Zt x), bxB 1 ([Iv 0]), hole, hole]) (Ze (Zab (Zf2 (Zag (Zca (Zp ?_))))))
  rw [show Zes l n x = 0 from (by first | exact Zsq (by first | exact Zbv (by omega) | exact of_decide_eq_true (by assumption)) (of_decide_eq_true (by assumption)) (fun q => by have := q.1; have := q.2; omega) (by omega) (by omega) | exact Zlb (by first | exact Zbv (by omega) | exact of_decide_eq_true (by assumption)) (of_decide_eq_true (by assumption)) (fun q => by have := q.1; have := q.2; omega) (by omega) (by omega) (Zju hn hall))]
  exact Zbe [0] (v := Iv 0) rfl (by kernel_rfl) rfl rfl (by decide) (by simp [Zcl, rwR, Zk]) rfl
  refine Zn (vx := Iv x.entry.kind) (vy := Iv 1) rfl rfl (.bool false) rfl rfl (Zbk (by omega)) ?_
  refine Zc (.bool false) (Ze (Zab (Zev rfl (Zk8 (Z1 (Zab (Zj8 (Zj8 (Zn8 ?_)))))))))
  refine Zcy (by kernel_rfl) ?_
  refine Zb (slv 0 0 n c) (Zd (b := 1) (o := 0) (n := 1) (o' := 1) (Zd (b := 1) (o := 1) (n := 1) (o' := 2) (Zi (p := pt 1 2) (v := Iv x.entry.client) ?_)))
  refine Z2 (e := [some (0, 0)]) (nid := 3) (Zqn (G := G) l n c hn (by omega) (by omega) x.entry.client) (vals := [slv 0 0 n c, Iv x.entry.client]) (v := .func (.func 71) #[] #[pt 3 0, pt 4 0]) (H' := [rwR Zk l, bxB 110 (Zt x), bxB 1 ([Iv 0]), rfB (slv 0 0 n c), Y1 x]) rfl rfl rfl rfl rfl rfl rfl ⟨⟨⟨rfl, rfl, rfl, by first | omega | exact Nat.le_refl _, by first | omega | exact Nat.le_refl _⟩, rfl, trivial⟩, ⟨(Zae rfl), trivial⟩, rfl, rfl, rfl⟩ (by kernel_rfl) (by kernel_rfl) ?_
  refine Ze (Zab ?_)
  have hiter := Zs2 (G := G) l n c hn hc hb x (fun k => ¬ x.entry.seq ≤ (l.getD ((Zcf (usP l x.entry.client) n).getD k 0) default).entry.seq)
  refine Zo6 (lbs := #[pt 3 0, pt 4 0]) (iter := hiter) rfl rfl rfl (by intro _ _; rfl) (by kernel_rfl) ?_ ?_
  · intro lp k hk hks
    have hku := Zlf hk
    refine Zn9 2 (H' := [rwR Zk l, bxB 110 (Zt x), bxB 1 ([Iv 0]), rfB (slv 0 0 n c), Y1 x, bxB 110 (Zt (l.getD ((Zcf (usP l x.entry.client) n).getD k 0) default)), hole, hole]) rfl ?_
    refine Zcy (by kernel_rfl) ?_
    refine Za4 (b := bxB 109 (Zdb (⟨0, 0, 0, ⟨#[]⟩, (⟨(⟨0, 0, 0, dz, 0⟩ : Head), 0, dz⟩ : Signed), (⟨0, 0, 0, 0, dz⟩ : Claim)⟩ : Entry))) (nid := 6) (H' := [rwR Zk l, bxB 110 (Zt x), bxB 1 ([Iv 0]), rfB (slv 0 0 n c), Y1 x, bxB 110 (Zt (l.getD ((Zcf (usP l x.entry.client) n).getD k 0) default)), bxB 109 (Zdb (⟨0, 0, 0, ⟨#[]⟩, (⟨(⟨0, 0, 0, dz, 0⟩ : Head), 0, dz⟩ : Signed), (⟨0, 0, 0, 0, dz⟩ : Claim)⟩ : Entry)), hole]) (Zy (p := pt 6 0) (v := Zdc ((l.getD ((Zcf (usP l x.entry.client) n).getD k 0) default).entry)) (b := 6) (blk := bxB 109 (Zdb ((l.getD ((Zcf (usP l x.entry.client) n).getD k 0) default).entry))) (H' := [rwR Zk l, bxB 110 (Zt x), bxB 1 ([Iv 0]), rfB (slv 0 0 n c), Y1 x, bxB 110 (Zt (l.getD ((Zcf (usP l x.entry.client) n).getD k 0) default)), bxB 109 (Zdb ((l.getD ((Zcf (usP l x.entry.client) n).getD k 0) default).entry)), hole]) (Ze (Zab (Zlm (Zdr ?_)))))
    refine Zcy (by kernel_rfl) ?_
    refine Zd (b := 6) (o := 0) (n := 2) (o' := 2) (Zi (p := pt 6 2) (v := Iv (((l.getD ((Zcf (usP l x.entry.client) n).getD k 0) default).entry).seq)) (Zd (b := 1) (o := 0) (n := 1) (o' := 1) (Zd (b := 1) (o := 1) (n := 2) (o' := 3) (Zi (p := pt 1 3) (v := Iv x.entry.seq) ?_))))
    by_cases h9 : x.entry.seq ≤ (((l.getD ((Zcf (usP l x.entry.client) n).getD k 0) default).entry).seq)
    refine Zn (vx := Iv (((l.getD ((Zcf (usP l x.entry.client) n).getD k 0) default).entry).seq)) (vy := Iv x.entry.seq) rfl rfl (.bool true) rfl rfl (Zhw (by omega)) ?_
    refine Ze (Zab (Zfp rfl (Zdr ?_)))
    refine Zcy (by kernel_rfl) ?_
    refine Zy (p := pt 2 0) (v := Iv 101) (b := 2) (blk := bxB 1 ([Iv 101])) (H' := [rwR Zk l, bxB 110 (Zt x), bxB 1 ([Iv 101]), rfB (slv 0 0 n c), Y1 x, bxB 110 (Zt (l.getD ((Zcf (usP l x.entry.client) n).getD k 0) default)), bxB 109 (Zdb ((l.getD ((Zcf (usP l x.entry.client) n).getD k 0) default).entry)), hole]) (Ze (Zab (Zf2 (Zag ?_))))
    refine ⟨?_⟩
    show ∃ v e, EndOK _ _ _ _ _ _ _ v e
    rw [show Zes l n x = 101 from Zss (by first | exact Zbv (by omega) | exact of_decide_eq_true (by assumption)) (of_decide_eq_true (by assumption)) (fun q => by have := q.1; have := q.2; omega) (by omega) (by omega) (Zsw hn hk (by omega))]
    exact Zbe [0] (v := Iv 101) rfl (by kernel_rfl) rfl rfl (by decide) (by simp [Zcl, rwR, Zk]) rfl
    refine Zn (vx := Iv (((l.getD ((Zcf (usP l x.entry.client) n).getD k 0) default).entry).seq)) (vy := Iv x.entry.seq) rfl rfl (.bool false) rfl rfl (Zjl (by omega)) ?_
    refine Ze (Zab (Zev rfl (Zk8 (Z1 ?_))))
    exact ⟨⟨(by show ¬ _ ≤ _; omega), _, Zbz (l := []) (n := 6) rfl trivial (by kernel_rfl) (by kernel_rfl)⟩⟩
  intro hall
  show CW none _ _ _ _ _ _ _
  refine Zdr ?_
  refine Zcy (by kernel_rfl) ?_
  refine Zy (p := pt 2 0) (v := Iv 0) (b := 2) (blk := bxB 1 ([Iv 0])) (H' := [rwR Zk l, bxB 110 (Zt x), bxB 1 ([Iv 0]), rfB (slv 0 0 n c), Y1 x]) (Ze (Zab (Zf2 (Zca (Zp ?_)))))
  rw [show Zes l n x = 0 from (by first | exact Zsq (by first | exact Zbv (by omega) | exact of_decide_eq_true (by assumption)) (of_decide_eq_true (by assumption)) (fun q => by have := q.1; have := q.2; omega) (by omega) (by omega) | exact Zlb (by first | exact Zbv (by omega) | exact of_decide_eq_true (by assumption)) (of_decide_eq_true (by assumption)) (fun q => by have := q.1; have := q.2; omega) (by omega) (by omega) (Zju hn hall))]
  exact Zbe [0] (v := Iv 0) rfl (by kernel_rfl) rfl rfl (by decide) (by simp [Zcl, rwR, Zk]) rfl
  refine Zd1 (vx := .bool (decide (Zb7 x))) rfl rfl (.bool true) rfl (Eq.trans Zbl (congrArg (fun b => some (Value.bool !b)) h2)) ?_
  refine Zg (.bool true) (Zc (.bool true) (Ze (Zab (Zfp rfl (Zdr ?_)))))
  refine Zcy (by kernel_rfl) ?_
  refine Zy (p := pt 2 0) (v := Iv 100) (b := 2) (blk := bxB 1 ([Iv 100])) (H' := [rwR Zk l, bxB 110 (Zt x), bxB 1 ([Iv 100]), hole, hole]) (Ze (Zab (Zf2 (Zag (Zca (Zp ?_))))))
  rw [show Zes l n x = 100 from Zsr (by first | exact .inl (Zai (by omega)) | exact .inl (of_decide_eq_false (by assumption)) | exact .inr (of_decide_eq_false (by assumption)))]
  exact Zbe [0] (v := Iv 100) rfl (by kernel_rfl) rfl rfl (by decide) (by simp [Zcl, rwR, Zk]) rfl
end Go.Flat
