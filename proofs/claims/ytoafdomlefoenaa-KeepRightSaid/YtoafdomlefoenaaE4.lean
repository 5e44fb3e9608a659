/- Walks. -/
import Derived.Test.YtoafdomlefoenaaE3
import Derived.Test.YtoafdomlefoenaaFlatH
set_option linter.unusedVariables false
set_option linter.unusedSimpArgs false
set_option maxRecDepth 20000
namespace Go.Flat
open Go.Proofs
variable {G : Glob}
def Zcf (p : Nat → Bool) (n : Nat) : List Nat := (List.range n).filter p
def Zhi (p : Nat → Bool) (i : Nat) : Nat := (Zcf p i).length
theorem Zkc (p : Nat → Bool) (n : Nat) : Zcf p (n + 1) = Zcf p n ++ (if p n = true then [n] else []) := by
  unfold Zcf; rw [List.range_succ, List.filter_append]; cases h : p n <;> simp [h]
theorem Zmw (p : Nat → Bool) (n : Nat) : Zhi p (n + 1) = Zhi p n + (if p n = true then 1 else 0) := by
  unfold Zhi; rw [Zkc, List.length_append]; cases h : p n <;> simp
theorem Zk8 {p : Nat → Bool} {i : Nat} : ∀ {n : Nat}, i < n → p i = true → (Zcf p n).getD (Zhi p i) 0 = i ∧ Zhi p i < (Zcf p n).length
 | 0, h, _ => absurd h (by omega)
 | n + 1, h, hp => by
  rw [Zkc]
  rcases Nat.lt_or_ge i n with q | q
  ·obtain ⟨h1, h2⟩ := Zk8 q hp
   refine ⟨?_, by rw [List.length_append]; omega⟩
   rw [List.getD_eq_getElem?_getD, List.getElem?_append_left h2, ← List.getD_eq_getElem?_getD]; exact h1
  ·obtain rfl : i = n := by omega
   rw [if_pos hp]
   refine ⟨?_, by rw [List.length_append]; exact Nat.lt_succ_self _⟩
   show (Zcf p i ++ [i]).getD (Zcf p i).length 0 = i
   rw [List.getD_eq_getElem?_getD, List.getElem?_append_right (Nat.le_refl _), Nat.sub_self]; rfl
theorem Zk9 {p : Nat → Bool} {k : Nat} : ∀ {n : Nat}, k < (Zcf p n).length → (Zcf p n).getD k 0 < n ∧ p ((Zcf p n).getD k 0) = true ∧ Zhi p ((Zcf p n).getD k 0) = k
 | 0, h => absurd h (by simp [Zcf])
 | n + 1, h => by
  rw [Zkc] at h ⊢
  rcases Nat.lt_or_ge k (Zcf p n).length with q | q
  ·obtain ⟨h1, h2, h3⟩ := Zk9 q
   rw [List.getD_eq_getElem?_getD, List.getElem?_append_left q, ← List.getD_eq_getElem?_getD]
   exact ⟨by omega, h2, h3⟩
  ·cases hp : p n with
   | false => rw [hp] at h; simp at h; omega
   | true =>
    rw [if_pos hp, List.length_append] at h
    have e : k = (Zcf p n).length := by simp at h; omega
    subst e
    have e2 : (Zcf p n ++ [n]).getD (Zcf p n).length 0 = n := by
     rw [List.getD_eq_getElem?_getD, List.getElem?_append_right (Nat.le_refl _), Nat.sub_self]; rfl
    rw [if_pos rfl, e2]
    exact ⟨by omega, hp, rfl⟩
theorem Zvz {p : Nat → Bool} {i : Nat} {ok : Nat → Prop} (hp : p i = true) (h : ∀ j, j < Zhi p i → ok j) (h1 : ok (Zhi p i)) : ∀ j, j < Zhi p (i + 1) → ok j := by
 intro j hj
 rw [Zmw, if_pos hp] at hj
 rcases Nat.lt_or_ge j (Zhi p i) with q | q
 ·exact h j q
 ·rw [show j = Zhi p i by omega]; exact h1
theorem Zud {p : Nat → Bool} {i : Nat} {ok : Nat → Prop} (hp : p i = false) (h : ∀ j, j < Zhi p i → ok j) : ∀ j, j < Zhi p (i + 1) → ok j := by
 intro j hj
 rw [Zmw, if_neg (by rw [hp]; decide)] at hj
 exact h j hj
def usP (l : List Item) (cl : Int) (i : Nat) : Bool := decide ((l.getD i default).entry.kind = 1 ∧ (l.getD i default).entry.client = cl)
def Zw9 (c s : Int) : Nat → List Item → Int × Bool
  | _, [] => (0, false)
  | i, x :: l => if x.entry.kind = 1 ∧ x.entry.client = c ∧ x.entry.seq = s then ((i : Int), true) else Zw9 c s (i + 1) l
def Z0v (l : List Item) (c s : Int) : Int × Bool := Zw9 c s 0 l
def Z0e (c s : Int) (x : Item) : Bool := decide (x.entry.kind = 1 ∧ x.entry.client = c ∧ s ≤ x.entry.seq)
def Ztg (l : List Item) (c s : Int) : Bool := l.any (Z0e c s)
theorem Zrv {l : List Item} {p : Item → Bool} : l.any p = true ↔ ∃ i, i < l.length ∧ p (l.getD i default) = true := by
 rw [List.any_eq_true]
 constructor
 ·rintro ⟨x, hx, hp⟩
  obtain ⟨i, hi, rfl⟩ := List.getElem_of_mem hx
  exact ⟨i, hi, by rw [List.getD_eq_getElem?_getD, List.getElem?_eq_getElem hi]; exact hp⟩
 ·rintro ⟨i, hi, hp⟩
  rw [List.getD_eq_getElem?_getD, List.getElem?_eq_getElem hi] at hp
  exact ⟨_, List.getElem_mem hi, hp⟩
theorem Zsl {l : List Item} {n k : Nat} {c s : Int} (hn : l.length = n) (hk : k < (Zcf (usP l c) n).length) (h : s ≤ (l.getD ((Zcf (usP l c) n).getD k 0) default).entry.seq) : Ztg l c s = true := by
 obtain ⟨h1, h2, _⟩ := Zk9 hk
 have h4 := of_decide_eq_true h2
 exact Zrv.2 ⟨_, by omega, decide_eq_true ⟨h4.1, h4.2, h⟩⟩
theorem Zjo {l : List Item} {n : Nat} {c s : Int} (hn : l.length = n) (hall : ∀ k, k < (Zcf (usP l c) n).length → ¬ s ≤ (l.getD ((Zcf (usP l c) n).getD k 0) default).entry.seq) : Ztg l c s = false := by
 cases h : Ztg l c s with
 | false => rfl
 | true =>
  obtain ⟨i, hi, hp⟩ := Zrv.1 h
  have q := of_decide_eq_true hp
  have hu : usP l c i = true := decide_eq_true ⟨q.1, q.2.1⟩
  have h5 := Zk8 (n := n) (by omega) hu
  have := hall _ h5.2
  rw [h5.1] at this
  exact absurd q.2.2 this
def Zen (l : List Item) (n : Nat) (x : Item) : Int :=
  if ¬ Zd9 l ∨ ¬ Zb4 x then 100 else if 0 < n ∧ x.epoch < (l.getD (n - 1) default).epoch then 102 else if 2000 ≤ n then 2 else if x.entry.kind ≠ 1 then 0 else if Ztg l x.entry.client x.entry.seq = true then 101 else 0
section
variable {l : List Item} {n : Nat} {x : Item}
theorem Zsg (h : ¬ Zd9 l ∨ ¬ Zb4 x) : Zen l n x = 100 := if_pos h
theorem Zhs (h1 : Zd9 l) (h2 : Zb4 x) : ¬ (¬ Zd9 l ∨ ¬ Zb4 x) := fun q => q.elim (fun q => q h1) fun q => q h2
theorem Zwr (h1 : Zd9 l) (h2 : Zb4 x) (h3 : 0 < n) (h4 : x.epoch < (l.getD (n - 1) default).epoch) : Zen l n x = 102 := by
 unfold Zen; rw [if_neg (Zhs h1 h2), if_pos ⟨h3, h4⟩]
theorem Zy7 (h1 : Zd9 l) (h2 : Zb4 x) (h3 : ¬ (0 < n ∧ x.epoch < (l.getD (n - 1) default).epoch)) (h4 : 2000 ≤ n) : Zen l n x = 2 := by
 unfold Zen; rw [if_neg (Zhs h1 h2), if_neg h3, if_pos h4]
theorem Zsf (h1 : Zd9 l) (h2 : Zb4 x) (h3 : ¬ (0 < n ∧ x.epoch < (l.getD (n - 1) default).epoch)) (h4 : ¬ 2000 ≤ n) (h5 : x.entry.kind ≠ 1) : Zen l n x = 0 := by
 unfold Zen; rw [if_neg (Zhs h1 h2), if_neg h3, if_neg h4, if_pos h5]
theorem Zsh (h1 : Zd9 l) (h2 : Zb4 x) (h3 : ¬ (0 < n ∧ x.epoch < (l.getD (n - 1) default).epoch)) (h4 : ¬ 2000 ≤ n) (h5 : x.entry.kind = 1) (h6 : Ztg l x.entry.client x.entry.seq = true) : Zen l n x = 101 := by
 unfold Zen; rw [if_neg (Zhs h1 h2), if_neg h3, if_neg h4, if_neg (fun q => q h5), if_pos h6]
theorem Zk5 (h1 : Zd9 l) (h2 : Zb4 x) (h3 : ¬ (0 < n ∧ x.epoch < (l.getD (n - 1) default).epoch)) (h4 : ¬ 2000 ≤ n) (h5 : x.entry.kind = 1) (h6 : Ztg l x.entry.client x.entry.seq = false) : Zen l n x = 0 := by
 unfold Zen; rw [if_neg (Zhs h1 h2), if_neg h3, if_neg h4, if_neg (fun q => q h5), if_neg (by rw [h6]; decide)]
end
theorem Zqh (l : List Item) (n c : Nat) (hn : l.length = n) (hc : n ≤ c) (hb : n ≤ 1048576) (cl : Int) : Zar Try.prog G 65 [slv 0 0 n c, Iv cl] [rwR Zi l] (.func (.func 71) #[] #[pt 1 0, pt 2 0]) [rwR Zi l, rfB (slv 0 0 n c), bxB 1 ([Iv cl])] := by
 refine Zcu (fn := Try.f65) (nt := 6) rfl rfl rfl rfl ?_
 refine Zbo 2 (H' := [rwR Zi l, hole, hole]) rfl ?_
 refine Zj (Zl (Zbx (v := slv 0 0 n c) (b := rfB (slv 0 0 n c)) (nid := 1) (H' := [rwR Zi l, rfB (slv 0 0 n c), hole]) (Zbx (v := Iv cl) (b := bxB 1 ([Iv cl])) (nid := 2) (H' := [rwR Zi l, rfB (slv 0 0 n c), bxB 1 ([Iv cl])]) (Zc .nilFunc (Zd (Zf (Zj (Zl ?_))))))))
 refine Znf (vs := []) (ws := [pt 1 0, pt 2 0]) rfl rfl rfl rfl rfl ?_
 refine Zc (.func (.func 71) #[] #[pt 1 0, pt 2 0]) (Zd (Zf (Zq (Zp ?_))))
 exact Zbf [0, 1, 2] (v := .func (.func 71) #[] #[pt 1 0, pt 2 0]) rfl (by kernel_rfl) rfl rfl (by decide) (by simp [Zck, rwR, rfB, bxB, Zpq, Zhc, Zi]) ⟨by simp [Zfl, Zc9, Zik, idE], by kernel_rfl⟩
theorem Zsq (l : List Item) (n c : Nat) (hn : l.length = n) (hc : n ≤ c) (hb : n ≤ 1048576) (x : Item) (ok : Nat → Prop) : Zt0 Try.prog G 71 [pt 3 0, pt 4 0] (Zcf (usP l x.entry.client) n).length (fun k => [Iv ((Zcf (usP l x.entry.client) n).getD k 0 : Nat), Zc7 (l.getD ((Zcf (usP l x.entry.client) n).getD k 0) default).entry]) [rwR Zi l, bxB 110 (Zs x), bxB 1 ([Iv 0]), rfB (slv 0 0 n c), bxB 1 ([Iv x.entry.client])] (fun k => [rwR Zi l, bxB 110 (Zs x), bxB 1 ([Iv 0]), rfB (slv 0 0 n c), bxB 1 ([Iv x.entry.client]), bxB 110 (Zs (l.getD ((Zcf (usP l x.entry.client) n).getD k 0) default))]) (fun k => [rwR Zi l, bxB 110 (Zs x), bxB 1 ([Iv 0]), rfB (slv 0 0 n c), bxB 1 ([Iv x.entry.client]), bxB 110 (Zs (l.getD ((Zcf (usP l x.entry.client) n).getD k 0) default))]) ok [rwR Zi l, bxB 110 (Zs x), bxB 1 ([Iv 0]), rfB (slv 0 0 n c), bxB 1 ([Iv x.entry.client])] := by
 refine Zqw (fn := Try.f71) rfl rfl (nt := 33) rfl rfl rfl ?_
 intro E l' Stop hE hd hY
 refine Zis ?_
 refine Zhj (by kernel_rfl) ?_
 refine Zca (p := pt 3 0) (v := slv 0 0 n c) rfl rfl rfl rfl ?_
 refine Zbd (p := slv 0 0 n c) (v := Iv (n : Nat)) (Zb (Iv 0) (Zd (Zaa (Zo5 ?_))))
 refine Zv4 hE (fun i : Nat => [.func (.yield l') #[] #[], pt 3 0, pt 4 0, dead, dead, dead, slv 0 0 n c, Iv (n : Nat), Iv (i : Nat)]) (fun i : Nat => [rwR Zi l, bxB 110 (Zs x), bxB 1 ([Iv 0]), rfB (slv 0 0 n c), bxB 1 ([Iv x.entry.client])]) (fun i : Nat => (∀ j, j < Zhi (usP l x.entry.client) i → ok j) ∧ i ≤ n) (fun i : Nat => n - i) 0 ⟨fun _ h => absurd h (by simp [Zhi, Zcf]), by omega⟩ ?_ ?_
 ·refine Zbv (n := 5) rfl ?_ (by kernel_rfl) (by kernel_rfl)
  repeat (first | exact trivial | refine ⟨.inl rfl, ?_⟩ | refine ⟨.inr ⟨rfl, rfl⟩, ?_⟩ | refine ⟨.inr ⟨congrArg (Value.int .i64) (by first | omega | (dsimp only; omega)), rfl⟩, ?_⟩)
 rintro i ⟨hks, hi⟩
 refine Zv3 hE 1 (H' := [rwR Zi l, bxB 110 (Zs x), bxB 1 ([Iv 0]), rfB (slv 0 0 n c), bxB 1 ([Iv x.entry.client]), hole]) rfl ?_
 refine Zis ?_
 refine Zhj (by kernel_rfl) ?_
 by_cases h1 : (i : Nat) < (n : Nat)
 refine Zn (vx := Iv (i : Nat)) (vy := Iv (n : Nat)) rfl rfl (.bool true) rfl rfl (Zfb (by omega)) ?_
 refine Zd (Zaa (Zis (Zv5 rfl (Zk2 (Zaa (Zis (Zo5 (Zis ?_))))))))
 refine Zhj (by kernel_rfl) ?_
 refine Zb (Iv (i : Nat)) ?_
 refine Zdv (b := 0) (o := 0) (j := i * 110) (m := n) (c := c) (sz := 110) (i := (i : Nat)) (k := .i64) rfl rfl rfl rfl rfl (by omega) (by omega) (by omega) ?_
 refine Zca (p := pt 0 (i * 110)) (v := Zao (l.getD i default)) rfl rfl rfl (Zef (n := 0) (m := 110) Zi rfl rfl rfl rfl (by have := hn; omega) (by omega)) ?_
 refine Zbg (b := bxB 110 (Zs (⟨0, (⟨0, 0, 0, ⟨#[]⟩, (⟨(⟨0, 0, 0, dz, 0⟩ : Head), 0, dz⟩ : Signed), (⟨0, 0, 0, 0, dz⟩ : Claim)⟩ : Entry)⟩ : Item))) (nid := 5) (H' := [rwR Zi l, bxB 110 (Zs x), bxB 1 ([Iv 0]), rfB (slv 0 0 n c), bxB 1 ([Iv x.entry.client]), bxB 110 (Zs (⟨0, (⟨0, 0, 0, ⟨#[]⟩, (⟨(⟨0, 0, 0, dz, 0⟩ : Head), 0, dz⟩ : Signed), (⟨0, 0, 0, 0, dz⟩ : Claim)⟩ : Entry)⟩ : Item))]) (Zc (Iv (i : Nat)) (Zz (p := pt 5 0) (v := Zao (l.getD i default)) (b := 5) (blk := bxB 110 (Zs (l.getD i default))) (H' := [rwR Zi l, bxB 110 (Zs x), bxB 1 ([Iv 0]), rfB (slv 0 0 n c), bxB 1 ([Iv x.entry.client]), bxB 110 (Zs (l.getD i default))]) (Zd (Zaa (Zis ?_)))))
 by_cases h2 : (((l.getD i default).entry).kind) = 1
 by_cases h3 : (((l.getD i default).entry).client) = x.entry.client
 have hlt : i < n := by omega
 have hp : (usP l x.entry.client) i = true := decide_eq_true ⟨by omega, by omega⟩
 refine Zs0 (fun w' h => ⟨w', h, rfl⟩) 16 rfl rfl rfl (by kernel_rfl) ?_
 refine Ze (b := 5) (o := 0) (n := 1) (o' := 1) (Ze (b := 5) (o := 1) (n := 0) (o' := 1) (Zk (p := pt 5 1) (v := Iv (((l.getD i default).entry).kind)) ?_))
 refine Zn (vx := Iv (((l.getD i default).entry).kind)) (vy := Iv 1) rfl rfl (.bool true) rfl rfl (Zaw (by omega)) ?_
 refine Zb (.bool true) (Ze (b := 5) (o := 0) (n := 1) (o' := 1) (Ze (b := 5) (o := 1) (n := 1) (o' := 2) (Zk (p := pt 5 2) (v := Iv (((l.getD i default).entry).client)) (Zk (p := pt 4 0) (v := Iv x.entry.client) ?_))))
 refine Zn (vx := Iv (((l.getD i default).entry).client)) (vy := Iv x.entry.client) rfl rfl (.bool true) rfl rfl (Zaw (by omega)) ?_
 refine Zh (.bool true) (Zb (.bool true) (Zb (.func (.yield l') #[] #[]) (Zb (Iv (i : Nat)) (Ze (b := 5) (o := 0) (n := 1) (o' := 1) (Zk (p := pt 5 1) (v := Zc7 ((l.getD i default).entry)) ?_)))))
 refine Zok ?_
 show Znr _ _ _ _ _ _ _ _ _ _ _ _ _ _
 unfold Znr
 refine ⟨l', [Iv (i : Nat), Zc7 ((l.getD i default).entry)], [rwR Zi l, bxB 110 (Zs x), bxB 1 ([Iv 0]), rfB (slv 0 0 n c), bxB 1 ([Iv x.entry.client]), bxB 110 (Zs (l.getD i default))], (ok (Zhi (usP l x.entry.client) i)), rfl, rfl, rfl, by decide, (by have h := hY (Zhi (usP l x.entry.client) i) (Zk8 hlt hp).2 hks; rw [(Zk8 hlt hp).1] at h; exact h), fun hok => ?_, ?_⟩
 refine Zhv (vx := .bool true) rfl rfl (.bool false) rfl Zdx ?_
 refine Zh (.bool false) (Zd (Zaa (Zi9 rfl (Zk2 (Z1 (Zaa ?_))))))
 refine Zhj (by kernel_rfl) ?_
 refine Zn (vx := Iv (i : Nat)) (vy := Iv 1) rfl rfl (Iv ((i : Nat) + 1)) rfl rfl (Zci (by omega) (by omega) (by omega)) ?_
 refine Zb (Iv ((i : Nat) + 1)) (Zd ?_)
 refine Zaa ⟨(i + 1), ⟨Zvz (by exact decide_eq_true ⟨by omega, by omega⟩) hks hok, by omega⟩, by show n - (i + 1) < n - i; omega, ?_⟩
 refine Zbv (n := 5) rfl ?_ (by kernel_rfl) (by kernel_rfl)
 repeat (first | exact trivial | refine ⟨.inl rfl, ?_⟩ | refine ⟨.inr ⟨rfl, rfl⟩, ?_⟩ | refine ⟨.inr ⟨congrArg (Value.int .i64) (by first | omega | (dsimp only; omega)), rfl⟩, ?_⟩)
 refine Zhv (vx := .bool false) rfl rfl (.bool true) rfl Zdx ?_
 refine Zh (.bool true) (Zd (Zaa (Zfk rfl (Zfy (Zad (Zb8 (Zb8 (Zad ?_))))))))
 exact ⟨.inr rfl⟩
 refine Zhj (by kernel_rfl) ?_
 refine Ze (b := 5) (o := 0) (n := 1) (o' := 1) (Ze (b := 5) (o := 1) (n := 0) (o' := 1) (Zk (p := pt 5 1) (v := Iv (((l.getD i default).entry).kind)) ?_))
 refine Zn (vx := Iv (((l.getD i default).entry).kind)) (vy := Iv 1) rfl rfl (.bool true) rfl rfl (Zaw (by omega)) ?_
 refine Zb (.bool true) (Ze (b := 5) (o := 0) (n := 1) (o' := 1) (Ze (b := 5) (o := 1) (n := 1) (o' := 2) (Zk (p := pt 5 2) (v := Iv (((l.getD i default).entry).client)) (Zk (p := pt 4 0) (v := Iv x.entry.client) ?_))))
 refine Zn (vx := Iv (((l.getD i default).entry).client)) (vy := Iv x.entry.client) rfl rfl (.bool false) rfl rfl (Zbj (by omega)) ?_
 refine Zh (.bool false) (Zb (.bool false) (Za (Za (Za (Za (Za (Za (Zh (.bool false) (Zd (Zaa (Zi9 rfl (Zk2 (Z1 (Zaa ?_))))))))))))))
 refine Zhj (by kernel_rfl) ?_
 refine Zn (vx := Iv (i : Nat)) (vy := Iv 1) rfl rfl (Iv ((i : Nat) + 1)) rfl rfl (Zci (by omega) (by omega) (by omega)) ?_
 refine Zb (Iv ((i : Nat) + 1)) (Zd ?_)
 refine Zaa ⟨(i + 1), ⟨Zud (by exact decide_eq_false (fun q => by have := q.1; have := q.2; omega)) hks, by omega⟩, by show n - (i + 1) < n - i; omega, ?_⟩
 refine Zbv (n := 5) rfl ?_ (by kernel_rfl) (by kernel_rfl)
 repeat (first | exact trivial | refine ⟨.inl rfl, ?_⟩ | refine ⟨.inr ⟨rfl, rfl⟩, ?_⟩ | refine ⟨.inr ⟨congrArg (Value.int .i64) (by first | omega | (dsimp only; omega)), rfl⟩, ?_⟩)
 refine Zhj (by kernel_rfl) ?_
 refine Ze (b := 5) (o := 0) (n := 1) (o' := 1) (Ze (b := 5) (o := 1) (n := 0) (o' := 1) (Zk (p := pt 5 1) (v := Iv (((l.getD i default).entry).kind)) ?_))
 refine Zn (vx := Iv (((l.getD i default).entry).kind)) (vy := Iv 1) rfl rfl (.bool false) rfl rfl (Zbj (by omega)) ?_
 refine Zb (.bool false) (Za (Za (Za (Za (Za (Zh (.bool false) (Zb (.bool false) (Za (Za (Za (Za (Za (Za (Zh (.bool false) (Zd (Zaa (Zi9 rfl (Zk2 (Z1 (Zaa ?_))))))))))))))))))))
 refine Zhj (by kernel_rfl) ?_
 refine Zn (vx := Iv (i : Nat)) (vy := Iv 1) rfl rfl (Iv ((i : Nat) + 1)) rfl rfl (Zci (by omega) (by omega) (by omega)) ?_
 refine Zb (Iv ((i : Nat) + 1)) (Zd ?_)
 refine Zaa ⟨(i + 1), ⟨Zud (by exact decide_eq_false (fun q => by have := q.1; have := q.2; omega)) hks, by omega⟩, by show n - (i + 1) < n - i; omega, ?_⟩
 refine Zbv (n := 5) rfl ?_ (by kernel_rfl) (by kernel_rfl)
 repeat (first | exact trivial | refine ⟨.inl rfl, ?_⟩ | refine ⟨.inr ⟨rfl, rfl⟩, ?_⟩ | refine ⟨.inr ⟨congrArg (Value.int .i64) (by first | omega | (dsimp only; omega)), rfl⟩, ?_⟩)
 refine Zn (vx := Iv (i : Nat)) (vy := Iv (n : Nat)) rfl rfl (.bool false) rfl rfl (Zex (by omega)) ?_
 refine Zd (Zaa (Zis (Zi9 rfl (Zv2 (Zee (Zee (Zfs rfl ?_)))))))
 exact ⟨⟨.inl rfl, fun j hj => hks j (by rw [show i = n by omega]; exact hj), _, Zbv (l := []) (n := 5) rfl trivial (by kernel_rfl) (by kernel_rfl)⟩⟩
abbrev Y1 (x : Item) : Blk := bxB 1 ([Iv x.entry.client])
theorem Zxm (l : List Item) (n c : Nat) (hn : l.length = n) (hc : n ≤ c) (hb : n ≤ 1048576) (x : Item) : Zar Try.prog G 53 [slv 0 0 n c, Zao x] [rwR Zi l] (Iv (Zen l n x)) [rwR Zi l] := by
  refine Zar.introM (fn := Try.f53) rfl rfl (nt := 54) rfl rfl ?_
  refine Zj3 (Znz ?_)
  refine Zn0 4 (H' := [rwR Zi l, hole, hole, hole, hole]) rfl ?_
  refine Zcw (by kernel_rfl) ?_
  refine Zbx (v := Zao x) (b := bxB 110 (Zs x)) (nid := 1) (H' := [rwR Zi l, bxB 110 (Zs x), hole, hole, hole]) (Zbg (b := bxB 1 ([Iv 0])) (nid := 2) (H' := [rwR Zi l, bxB 110 (Zs x), bxB 1 ([Iv 0]), hole, hole]) (Zd (Zaa (Zj3 (Znz (Zlh (Zdq ?_)))))))
  refine Zcw (by kernel_rfl) ?_
  refine Zb (slv 0 0 n c) ?_
  refine Z7 (e := [some (0, 0)]) (nid := 0) (Zh5 (G := G) l n c hn (by omega) (by omega)) (vals := [slv 0 0 n c]) (v := Iv (Zfj l)) (H' := [rwR Zi l, bxB 110 (Zs x), bxB 1 ([Iv 0]), hole, hole]) rfl rfl rfl rfl rfl rfl rfl ⟨⟨⟨rfl, rfl, rfl, by first | omega | exact Nat.le_refl _, by first | omega | exact Nat.le_refl _⟩, trivial⟩, ⟨(Zab rfl), trivial⟩, rfl, rfl, rfl⟩ rfl (by kernel_rfl) ?_
  by_cases h1 : (Zfj l) ≠ 0
  refine Zn (vx := Iv (Zfj l)) (vy := Iv 0) rfl rfl (.bool true) rfl rfl (Zdd (by omega)) ?_
  refine Zb (.bool true) (Za (Za (Za (Zh (.bool true) (Zc (.bool true) (Zd (Zaa (Zfk rfl (Zdq ?_)))))))))
  refine Zcw (by kernel_rfl) ?_
  refine Zz (p := pt 2 0) (v := Iv 100) (b := 2) (blk := bxB 1 ([Iv 100])) (H' := [rwR Zi l, bxB 110 (Zs x), bxB 1 ([Iv 100]), hole, hole]) (Zd (Zaa (Zfy (Zad (Zb8 (Zp ?_))))))
  rw [show Zen l n x = 100 from Zsg (by first | exact .inl (Zaf (by omega)) | exact .inl (of_decide_eq_false (by assumption)) | exact .inr (of_decide_eq_false (by assumption)))]
  exact Zbf [0] (v := Iv 100) rfl (by kernel_rfl) rfl rfl (by decide) (by simp [Zck, rwR, Zi]) rfl
  refine Zn (vx := Iv (Zfj l)) (vy := Iv 0) rfl rfl (.bool false) rfl rfl (Zdc (by omega)) ?_
  refine Zb (.bool false) (Zk (p := pt 1 0) (v := Zao x) ?_)
  refine Zt (Zp4 (G := G) x) (vals := [Zao x]) (res' := .bool (decide (Zb4 x))) rfl rfl rfl rfl rfl rfl ?_
  rcases Bool.eq_false_or_eq_true (decide (Zb4 x)) with h2 | h2
  refine Zhv (vx := .bool (decide (Zb4 x))) rfl rfl (.bool false) rfl (Eq.trans Zdx (congrArg (fun b => some (Value.bool !b)) h2)) ?_
  refine Zh (.bool false) (Zc (.bool false) (Zd (Zaa (Zeq rfl (Zdq ?_)))))
  refine Zv0 (by kernel_rfl) (by kernel_rfl) ?_
  refine Zb (slv 0 0 n c) (Zbd (p := slv 0 0 n c) (v := Iv (n : Nat)) ?_)
  by_cases h3 : 0 < (n : Nat)
  refine Zn (vx := Iv (n : Nat)) (vy := Iv 0) rfl rfl (.bool true) rfl rfl (Zhn (by omega)) ?_
  refine Zb (.bool true) (Ze (b := 1) (o := 0) (n := 0) (o' := 0) (Zk (p := pt 1 0) (v := Iv x.epoch) (Zb (slv 0 0 n c) (Zb (slv 0 0 n c) (Zbd (p := slv 0 0 n c) (v := Iv (n : Nat)) ?_)))))
  refine Zn (vx := Iv (n : Nat)) (vy := Iv 1) rfl rfl (Iv ((n : Nat) - 1)) rfl rfl (Zky (by omega) (by omega) (by omega)) ?_
  refine Zdv (b := 0) (o := 0) (j := (n - 1) * 110) (m := n) (c := c) (sz := 110) (i := (n : Nat) - 1) (k := .i64) rfl rfl rfl rfl rfl (by omega) (by omega) (by omega) ?_
  refine Za1 (b := 0) (o := (n - 1) * 110) (n := 0) (o' := (n - 1) * 110) rfl rfl rfl rfl (by omega) ?_
  refine Zca (p := pt 0 ((n - 1) * 110)) (v := Iv ((l.getD (n - 1) default).epoch)) rfl rfl rfl (Zh8 Zi (l := l) (i := n - 1) (k := 0) (m := 110) rfl rfl rfl rfl (by have := hn; omega) (by omega) (by kernel_rfl) rfl) ?_
  by_cases h4 : x.epoch < ((l.getD (n - 1) default).epoch)
  refine Zn (vx := Iv x.epoch) (vy := Iv ((l.getD (n - 1) default).epoch)) rfl rfl (.bool true) rfl rfl (Zfb (by omega)) ?_
  refine Zh (.bool true) (Zc (.bool true) ?_)
  refine Za9 (Zap [[], [0], [0, 1], [0, 1, 2], [0, 1, 2, 3], [0, 1, 2, 3, 4], [0, 1, 2, 3], [0, 1, 2, 3], [0, 1, 2, 3, 7], [0, 1, 2, 3, 7, 8], [0, 1, 2, 3, 6, 7, 8, 9], [0, 1, 2, 3, 6, 7, 8, 9, 10], [0, 1, 2, 3, 6, 7, 8, 9, 10, 11], [0, 1, 2, 3, 4, 5, 6, 7, 8, 9, 10, 11, 12], [0, 1, 2, 3, 4, 5, 6, 7, 8, 9, 10, 11, 12, 13], [0, 1, 2, 3, 4, 5, 6, 7, 8, 9, 10, 11, 12, 13, 14]] (by kernel_rfl) (by kernel_rfl)) ?_
  refine Zaa (Zfk rfl (Zdq ?_))
  refine Zcw (by kernel_rfl) ?_
  refine Zz (p := pt 2 0) (v := Iv 102) (b := 2) (blk := bxB 1 ([Iv 102])) (H' := [rwR Zi l, bxB 110 (Zs x), bxB 1 ([Iv 102]), hole, hole]) (Zd (Zaa (Zfy (Zad (Zb8 (Zp ?_))))))
  rw [show Zen l n x = 102 from Zwr (by first | exact Zbs (by omega) | exact of_decide_eq_true (by assumption)) (of_decide_eq_true (by assumption)) (by omega) (by omega)]
  exact Zbf [0] (v := Iv 102) rfl (by kernel_rfl) rfl rfl (by decide) (by simp [Zck, rwR, Zi]) rfl
  refine Zn (vx := Iv x.epoch) (vy := Iv ((l.getD (n - 1) default).epoch)) rfl rfl (.bool false) rfl rfl (Zex (by omega)) ?_
  refine Zh (.bool false) (Zc (.bool false) ?_)
  refine Za9 (Zap [[], [0], [0, 1], [0, 1, 2], [0, 1, 2, 3], [0, 1, 2, 3, 4], [0, 1, 2, 3], [0, 1, 2, 3], [0, 1, 2, 3, 7], [0, 1, 2, 3, 7, 8], [0, 1, 2, 3, 6, 7, 8, 9], [0, 1, 2, 3, 6, 7, 8, 9, 10], [0, 1, 2, 3, 6, 7, 8, 9, 10, 11], [0, 1, 2, 3, 4, 5, 6, 7, 8, 9, 10, 11, 12], [0, 1, 2, 3, 4, 5, 6, 7, 8, 9, 10, 11, 12, 13], [0, 1, 2, 3, 4, 5, 6, 7, 8, 9, 10, 11, 12, 13, 14]] (by kernel_rfl) (by kernel_rfl)) ?_
  refine Zaa (Zeq rfl (Zdq ?_))
  refine Zcw (by kernel_rfl) ?_
  refine Zb (slv 0 0 n c) (Zbd (p := slv 0 0 n c) (v := Iv (n : Nat)) ?_)
  by_cases h5 : 2000 ≤ (n : Nat)
  refine Zn (vx := Iv (n : Nat)) (vy := Iv 2000) rfl rfl (.bool true) rfl rfl (Zfg (by omega)) ?_
  refine Zc (.bool true) (Zd (Zaa (Zfk rfl (Zdq ?_))))
  refine Zcw (by kernel_rfl) ?_
  refine Zz (p := pt 2 0) (v := Iv 2) (b := 2) (blk := bxB 1 ([Iv 2])) (H' := [rwR Zi l, bxB 110 (Zs x), bxB 1 ([Iv 2]), hole, hole]) (Zd (Zaa (Zfy (Zad (Zb8 (Zp ?_))))))
  rw [show Zen l n x = 2 from Zy7 (by first | exact Zbs (by omega) | exact of_decide_eq_true (by assumption)) (of_decide_eq_true (by assumption)) (fun q => by have := q.1; have := q.2; omega) (by omega)]
  exact Zbf [0] (v := Iv 2) rfl (by kernel_rfl) rfl rfl (by decide) (by simp [Zck, rwR, Zi]) rfl
  refine Zn (vx := Iv (n : Nat)) (vy := Iv 2000) rfl rfl (.bool false) rfl rfl (Zjf (by omega)) ?_
  refine Zc (.bool false) (Zd (Zaa (Zeq rfl (Zdq ?_))))
  refine Zcw (by kernel_rfl) ?_
  refine Ze (b := 1) (o := 0) (n := 1) (o' := 1) (Ze (b := 1) (o := 1) (n := 0) (o' := 1) (Zk (p := pt 1 1) (v := Iv x.entry.kind) ?_))
  by_cases h6 : x.entry.kind ≠ 1
  refine Zn (vx := Iv x.entry.kind) (vy := Iv 1) rfl rfl (.bool true) rfl rfl (Zdd (by omega)) ?_
  refine Zc (.bool true) (Zd (Zaa (Zfk rfl (Zdq ?_))))
  refine Zcw (by kernel_rfl) ?_
  refine Zz (p := pt 2 0) (v := Iv 0) (b := 2) (blk := bxB 1 ([Iv 0])) (H' := [rwR Zi l, bxB 110 (Zs x), bxB 1 ([Iv 0]), hole, hole]) (Zd (Zaa (Zfy (Zad (Zb8 (Zp ?_))))))
  rw [show Zen l n x = 0 from (by first | exact Zsf (by first | exact Zbs (by omega) | exact of_decide_eq_true (by assumption)) (of_decide_eq_true (by assumption)) (fun q => by have := q.1; have := q.2; omega) (by omega) (by omega) | exact Zk5 (by first | exact Zbs (by omega) | exact of_decide_eq_true (by assumption)) (of_decide_eq_true (by assumption)) (fun q => by have := q.1; have := q.2; omega) (by omega) (by omega) (Zjo hn hall))]
  exact Zbf [0] (v := Iv 0) rfl (by kernel_rfl) rfl rfl (by decide) (by simp [Zck, rwR, Zi]) rfl
  refine Zn (vx := Iv x.entry.kind) (vy := Iv 1) rfl rfl (.bool false) rfl rfl (Zdc (by omega)) ?_
  refine Zc (.bool false) (Zd (Zaa (Zeq rfl (Zk1 (Z1 (Zaa (Zj3 (Zj3 (Znz ?_)))))))))
  refine Zcw (by kernel_rfl) ?_
  refine Zb (slv 0 0 n c) (Ze (b := 1) (o := 0) (n := 1) (o' := 1) (Ze (b := 1) (o := 1) (n := 1) (o' := 2) (Zk (p := pt 1 2) (v := Iv x.entry.client) ?_)))
  refine Z7 (e := [some (0, 0)]) (nid := 3) (Zqh (G := G) l n c hn (by omega) (by omega) x.entry.client) (vals := [slv 0 0 n c, Iv x.entry.client]) (v := .func (.func 71) #[] #[pt 3 0, pt 4 0]) (H' := [rwR Zi l, bxB 110 (Zs x), bxB 1 ([Iv 0]), rfB (slv 0 0 n c), Y1 x]) rfl rfl rfl rfl rfl rfl rfl ⟨⟨⟨rfl, rfl, rfl, by first | omega | exact Nat.le_refl _, by first | omega | exact Nat.le_refl _⟩, rfl, trivial⟩, ⟨(Zab rfl), trivial⟩, rfl, rfl, rfl⟩ (by kernel_rfl) (by kernel_rfl) ?_
  refine Zd (Zaa ?_)
  have hiter := Zsq (G := G) l n c hn hc hb x (fun k => ¬ x.entry.seq ≤ (l.getD ((Zcf (usP l x.entry.client) n).getD k 0) default).entry.seq)
  refine Zo1 (lbs := #[pt 3 0, pt 4 0]) (iter := hiter) rfl rfl rfl (by intro _ _; rfl) (by kernel_rfl) ?_ ?_
  · intro lp k hk hks
    have hku := Zk9 hk
    refine Zn0 2 (H' := [rwR Zi l, bxB 110 (Zs x), bxB 1 ([Iv 0]), rfB (slv 0 0 n c), Y1 x, bxB 110 (Zs (l.getD ((Zcf (usP l x.entry.client) n).getD k 0) default)), hole, hole]) rfl ?_
    refine Zcw (by kernel_rfl) ?_
    refine Zbg (b := bxB 109 (Zc6 (⟨0, 0, 0, ⟨#[]⟩, (⟨(⟨0, 0, 0, dz, 0⟩ : Head), 0, dz⟩ : Signed), (⟨0, 0, 0, 0, dz⟩ : Claim)⟩ : Entry))) (nid := 6) (H' := [rwR Zi l, bxB 110 (Zs x), bxB 1 ([Iv 0]), rfB (slv 0 0 n c), Y1 x, bxB 110 (Zs (l.getD ((Zcf (usP l x.entry.client) n).getD k 0) default)), bxB 109 (Zc6 (⟨0, 0, 0, ⟨#[]⟩, (⟨(⟨0, 0, 0, dz, 0⟩ : Head), 0, dz⟩ : Signed), (⟨0, 0, 0, 0, dz⟩ : Claim)⟩ : Entry)), hole]) (Zz (p := pt 6 0) (v := Zc7 ((l.getD ((Zcf (usP l x.entry.client) n).getD k 0) default).entry)) (b := 6) (blk := bxB 109 (Zc6 ((l.getD ((Zcf (usP l x.entry.client) n).getD k 0) default).entry))) (H' := [rwR Zi l, bxB 110 (Zs x), bxB 1 ([Iv 0]), rfB (slv 0 0 n c), Y1 x, bxB 110 (Zs (l.getD ((Zcf (usP l x.entry.client) n).getD k 0) default)), bxB 109 (Zc6 ((l.getD ((Zcf (usP l x.entry.client) n).getD k 0) default).entry)), hole]) (Zd (Zaa (Zlh (Zdq ?_)))))
    refine Zcw (by kernel_rfl) ?_
    refine Ze (b := 6) (o := 0) (n := 2) (o' := 2) (Zk (p := pt 6 2) (v := Iv (((l.getD ((Zcf (usP l x.entry.client) n).getD k 0) default).entry).seq)) (Ze (b := 1) (o := 0) (n := 1) (o' := 1) (Ze (b := 1) (o := 1) (n := 2) (o' := 3) (Zk (p := pt 1 3) (v := Iv x.entry.seq) ?_))))
    by_cases h7 : x.entry.seq ≤ (((l.getD ((Zcf (usP l x.entry.client) n).getD k 0) default).entry).seq)
    refine Zn (vx := Iv (((l.getD ((Zcf (usP l x.entry.client) n).getD k 0) default).entry).seq)) (vy := Iv x.entry.seq) rfl rfl (.bool true) rfl rfl (Zfg (by omega)) ?_
    refine Zd (Zaa (Zfk rfl (Zdq ?_)))
    refine Zcw (by kernel_rfl) ?_
    refine Zz (p := pt 2 0) (v := Iv 101) (b := 2) (blk := bxB 1 ([Iv 101])) (H' := [rwR Zi l, bxB 110 (Zs x), bxB 1 ([Iv 101]), rfB (slv 0 0 n c), Y1 x, bxB 110 (Zs (l.getD ((Zcf (usP l x.entry.client) n).getD k 0) default)), bxB 109 (Zc6 ((l.getD ((Zcf (usP l x.entry.client) n).getD k 0) default).entry)), hole]) (Zd (Zaa (Zfy (Zad ?_))))
    refine ⟨?_⟩
    show ∃ v e, EndOK _ _ _ _ _ _ _ v e
    rw [show Zen l n x = 101 from Zsh (by first | exact Zbs (by omega) | exact of_decide_eq_true (by assumption)) (of_decide_eq_true (by assumption)) (fun q => by have := q.1; have := q.2; omega) (by omega) (by omega) (Zsl hn hk (by omega))]
    exact Zbf [0] (v := Iv 101) rfl (by kernel_rfl) rfl rfl (by decide) (by simp [Zck, rwR, Zi]) rfl
    refine Zn (vx := Iv (((l.getD ((Zcf (usP l x.entry.client) n).getD k 0) default).entry).seq)) (vy := Iv x.entry.seq) rfl rfl (.bool false) rfl rfl (Zjf (by omega)) ?_
    refine Zd (Zaa (Zeq rfl (Zk1 (Z1 ?_))))
    exact ⟨⟨(by show ¬ _ ≤ _; omega), _, Zbv (l := []) (n := 6) rfl trivial (by kernel_rfl) (by kernel_rfl)⟩⟩
  intro hall
  show CW none _ _ _ _ _ _ _
  refine Zdq ?_
  refine Zcw (by kernel_rfl) ?_
  refine Zz (p := pt 2 0) (v := Iv 0) (b := 2) (blk := bxB 1 ([Iv 0])) (H' := [rwR Zi l, bxB 110 (Zs x), bxB 1 ([Iv 0]), rfB (slv 0 0 n c), Y1 x]) (Zd (Zaa (Zfy (Zb8 (Zp ?_)))))
  rw [show Zen l n x = 0 from (by first | exact Zsf (by first | exact Zbs (by omega) | exact of_decide_eq_true (by assumption)) (of_decide_eq_true (by assumption)) (fun q => by have := q.1; have := q.2; omega) (by omega) (by omega) | exact Zk5 (by first | exact Zbs (by omega) | exact of_decide_eq_true (by assumption)) (of_decide_eq_true (by assumption)) (fun q => by have := q.1; have := q.2; omega) (by omega) (by omega) (Zjo hn hall))]
  exact Zbf [0] (v := Iv 0) rfl (by kernel_rfl) rfl rfl (by decide) (by simp [Zck, rwR, Zi]) rfl
  refine Zn (vx := Iv (n : Nat)) (vy := Iv 0) rfl rfl (.bool false) rfl rfl (Zgq (by omega)) ?_
  refine Zb (.bool false) (Za (Za (Za (Za (Za (Za (Za (Za (Za (Za (Zh (.bool false) (Zc (.bool false) ?_))))))))))))
  refine Za9 (Zap [[], [0], [0, 1], [0, 1, 2], [0, 1, 2, 3], [0, 1, 2, 3, 4], [0, 1, 2, 3], [0, 1, 2, 3], [0, 1, 2, 3, 7], [0, 1, 2, 3, 7, 8], [0, 1, 2, 3, 6, 7, 8, 9], [0, 1, 2, 3, 6, 7, 8, 9, 10], [0, 1, 2, 3, 6, 7, 8, 9, 10, 11], [0, 1, 2, 3, 4, 5, 6, 7, 8, 9, 10, 11, 12], [0, 1, 2, 3, 4, 5, 6, 7, 8, 9, 10, 11, 12, 13], [0, 1, 2, 3, 4, 5, 6, 7, 8, 9, 10, 11, 12, 13, 14]] (by kernel_rfl) (by kernel_rfl)) ?_
  refine Zaa (Zeq rfl (Zdq ?_))
  refine Zcw (by kernel_rfl) ?_
  refine Zb (slv 0 0 n c) (Zbd (p := slv 0 0 n c) (v := Iv (n : Nat)) ?_)
  refine Zn (vx := Iv (n : Nat)) (vy := Iv 2000) rfl rfl (.bool false) rfl rfl (Zjf (by omega)) ?_
  refine Zc (.bool false) (Zd (Zaa (Zeq rfl (Zdq ?_))))
  refine Zcw (by kernel_rfl) ?_
  refine Ze (b := 1) (o := 0) (n := 1) (o' := 1) (Ze (b := 1) (o := 1) (n := 0) (o' := 1) (Zk (p := pt 1 1) (v := Iv x.entry.kind) ?_))
  by_cases h8 : x.entry.kind ≠ 1
  refine Zn (vx := Iv x.entry.kind) (vy := Iv 1) rfl rfl (.bool true) rfl rfl (Zdd (by omega)) ?_
  refine Zc (.bool true) (Zd (Zaa (Zfk rfl (Zdq ?_))))
  refine Zcw (by kernel_rfl) ?_
  refine Zz (p := pt 2 0) (v := Iv 0) (b := 2) (blk := bxB 1 ([Iv 0])) (H' := [rwR Zi l, bxB 110 (Zs x), bxB 1 ([Iv 0]), hole, hole]) (Zd (Zaa (Zfy (Zad (Zb8 (Zp ?_))))))
  rw [show Zen l n x = 0 from (by first | exact Zsf (by first | exact Zbs (by omega) | exact of_decide_eq_true (by assumption)) (of_decide_eq_true (by assumption)) (fun q => by have := q.1; have := q.2; omega) (by omega) (by omega) | exact Zk5 (by first | exact Zbs (by omega) | exact of_decide_eq_true (by assumption)) (of_decide_eq_true (by assumption)) (fun q => by have := q.1; have := q.2; omega) (by omega) (by omega) (Zjo hn hall))]
  exact Zbf [0] (v := Iv 0) rfl (by kernel_rfl) rfl rfl (by decide) (by simp [Zck, rwR, Zi]) rfl
  refine Zn (vx := Iv x.entry.kind) (vy := Iv 1) rfl rfl (.bool false) rfl rfl (Zdc (by omega)) ?_
  refine Zc (.bool false) (Zd (Zaa (Zeq rfl (Zk1 (Z1 (Zaa (Zj3 (Zj3 (Znz ?_)))))))))
  refine Zcw (by kernel_rfl) ?_
  refine Zb (slv 0 0 n c) (Ze (b := 1) (o := 0) (n := 1) (o' := 1) (Ze (b := 1) (o := 1) (n := 1) (o' := 2) (Zk (p := pt 1 2) (v := Iv x.entry.client) ?_)))
  refine Z7 (e := [some (0, 0)]) (nid := 3) (Zqh (G := G) l n c hn (by omega) (by omega) x.entry.client) (vals := [slv 0 0 n c, Iv x.entry.client]) (v := .func (.func 71) #[] #[pt 3 0, pt 4 0]) (H' := [rwR Zi l, bxB 110 (Zs x), bxB 1 ([Iv 0]), rfB (slv 0 0 n c), Y1 x]) rfl rfl rfl rfl rfl rfl rfl ⟨⟨⟨rfl, rfl, rfl, by first | omega | exact Nat.le_refl _, by first | omega | exact Nat.le_refl _⟩, rfl, trivial⟩, ⟨(Zab rfl), trivial⟩, rfl, rfl, rfl⟩ (by kernel_rfl) (by kernel_rfl) ?_
  refine Zd (Zaa ?_)
  have hiter := Zsq (G := G) l n c hn hc hb x (fun k => ¬ x.entry.seq ≤ (l.getD ((Zcf (usP l x.entry.client) n).getD k 0) default).entry.seq)
  refine Zo1 (lbs := #[pt 3 0, pt 4 0]) (iter := hiter) rfl rfl rfl (by intro _ _; rfl) (by kernel_rfl) ?_ ?_
  · intro lp k hk hks
    have hku := Zk9 hk
    refine Zn0 2 (H' := [rwR Zi l, bxB 110 (Zs x), bxB 1 ([Iv 0]), rfB (slv 0 0 n c), Y1 x, bxB 110 (Zs (l.getD ((Zcf (usP l x.entry.client) n).getD k 0) default)), hole, hole]) rfl ?_
    refine Zcw (by kernel_rfl) ?_
    refine Zbg (b := bxB 109 (Zc6 (⟨0, 0, 0, ⟨#[]⟩, (⟨(⟨0, 0, 0, dz, 0⟩ : Head), 0, dz⟩ : Signed), (⟨0, 0, 0, 0, dz⟩ : Claim)⟩ : Entry))) (nid := 6) (H' := [rwR Zi l, bxB 110 (Zs x), bxB 1 ([Iv 0]), rfB (slv 0 0 n c), Y1 x, bxB 110 (Zs (l.getD ((Zcf (usP l x.entry.client) n).getD k 0) default)), bxB 109 (Zc6 (⟨0, 0, 0, ⟨#[]⟩, (⟨(⟨0, 0, 0, dz, 0⟩ : Head), 0, dz⟩ : Signed), (⟨0, 0, 0, 0, dz⟩ : Claim)⟩ : Entry)), hole]) (Zz (p := pt 6 0) (v := Zc7 ((l.getD ((Zcf (usP l x.entry.client) n).getD k 0) default).entry)) (b := 6) (blk := bxB 109 (Zc6 ((l.getD ((Zcf (usP l x.entry.client) n).getD k 0) default).entry))) (H' := [rwR Zi l, bxB 110 (Zs x), bxB 1 ([Iv 0]), rfB (slv 0 0 n c), Y1 x, bxB 110 (Zs (l.getD ((Zcf (usP l x.entry.client) n).getD k 0) default)), bxB 109 (Zc6 ((l.getD ((Zcf (usP l x.entry.client) n).getD k 0) default).entry)), hole]) (Zd (Zaa (Zlh (Zdq ?_)))))
    refine Zcw (by kernel_rfl) ?_
    refine Ze (b := 6) (o := 0) (n := 2) (o' := 2) (Zk (p := pt 6 2) (v := Iv (((l.getD ((Zcf (usP l x.entry.client) n).getD k 0) default).entry).seq)) (Ze (b := 1) (o := 0) (n := 1) (o' := 1) (Ze (b := 1) (o := 1) (n := 2) (o' := 3) (Zk (p := pt 1 3) (v := Iv x.entry.seq) ?_))))
    by_cases h9 : x.entry.seq ≤ (((l.getD ((Zcf (usP l x.entry.client) n).getD k 0) default).entry).seq)
    refine Zn (vx := Iv (((l.getD ((Zcf (usP l x.entry.client) n).getD k 0) default).entry).seq)) (vy := Iv x.entry.seq) rfl rfl (.bool true) rfl rfl (Zfg (by omega)) ?_
    refine Zd (Zaa (Zfk rfl (Zdq ?_)))
    refine Zcw (by kernel_rfl) ?_
    refine Zz (p := pt 2 0) (v := Iv 101) (b := 2) (blk := bxB 1 ([Iv 101])) (H' := [rwR Zi l, bxB 110 (Zs x), bxB 1 ([Iv 101]), rfB (slv 0 0 n c), Y1 x, bxB 110 (Zs (l.getD ((Zcf (usP l x.entry.client) n).getD k 0) default)), bxB 109 (Zc6 ((l.getD ((Zcf (usP l x.entry.client) n).getD k 0) default).entry)), hole]) (Zd (Zaa (Zfy (Zad ?_))))
    refine ⟨?_⟩
    show ∃ v e, EndOK _ _ _ _ _ _ _ v e
    rw [show Zen l n x = 101 from Zsh (by first | exact Zbs (by omega) | exact of_decide_eq_true (by assumption)) (of_decide_eq_true (by assumption)) (fun q => by have := q.1; have := q.2; omega) (by omega) (by omega) (Zsl hn hk (by omega))]
    exact Zbf [0] (v := Iv 101) rfl (by kernel_rfl) rfl rfl (by decide) (by simp [Zck, rwR, Zi]) rfl
    refine Zn (vx := Iv (((l.getD ((Zcf (usP l x.entry.client) n).getD k 0) default).entry).seq)) (vy := Iv x.entry.seq) rfl rfl (.bool false) rfl rfl (Zjf (by omega)) ?_
    refine Zd (Zaa (Zeq rfl (Zk1 (Z1 ?_))))
    exact ⟨⟨(by show ¬ _ ≤ _; omega), _, Zbv (l := []) (n := 6) rfl trivial (by kernel_rfl) (by kernel_rfl)⟩⟩
  intro hall
  show CW none _ _ _ _ _ _ _
  refine Zdq ?_
  refine Zcw (by kernel_rfl) ?_
  refine Zz (p := pt 2 0) (v := Iv 0) (b := 2) (blk := bxB 1 ([Iv 0])) (H' := [rwR Zi l, bxB 110 (Zs x), bxB 1 ([Iv 0]), rfB (slv 0 0 n c), Y1 x]) (Zd (Zaa (Zfy (Zb8 (Zp ?_)))))
  rw [show Zen l n x = 0 from (by first | exact Zsf (by first | exact Zbs (by omega) | exact of_decide_eq_true (by assumption)) (of_decide_eq_true (by assumption)) (fun q => by have := q.1; have := q.2; omega) (by omega) (by omega) | exact Zk5 (by first | exact Zbs (by omega) | exact of_decide_eq_true (by assumption)) (of_decide_eq_true (by assumption)) (fun q => by have := q.1; have := q.2; omega) (by omega) (by omega) (Zjo hn hall))]
  exact Zbf [0] (v := Iv 0) rfl (by kernel_rfl) rfl rfl (by decide) (by simp [Zck, rwR, Zi]) rfl
  refine Zhv (vx := .bool (decide (Zb4 x))) rfl rfl (.bool true) rfl (Eq.trans Zdx (congrArg (fun b => some (Value.bool !b)) h2)) ?_
  refine Zh (.bool true) (Zc (.bool true) (Zd (Zaa (Zfk rfl (Zdq ?_)))))
  refine Zcw (by kernel_rfl) ?_
  refine Zz (p := pt 2 0) (v := Iv 100) (b := 2) (blk := bxB 1 ([Iv 100])) (H' := [rwR Zi l, bxB 110 (Zs x), bxB 1 ([Iv 100]), hole, hole]) (Zd (Zaa (Zfy (Zad (Zb8 (Zp ?_))))))
  rw [show Zen l n x = 100 from Zsg (by first | exact .inl (Zaf (by omega)) | exact .inl (of_decide_eq_false (by assumption)) | exact .inr (of_decide_eq_false (by assumption)))]
  exact Zbf [0] (v := Iv 100) rfl (by kernel_rfl) rfl rfl (by decide) (by simp [Zck, rwR, Zi]) rfl
end Go.Flat
