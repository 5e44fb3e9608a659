/- Walks. -/
import Derived.Test.YtoafdomlefoenaaE3
import Derived.Test.YtoafdomlefoenaaFlatH
set_option linter.unusedVariables false
set_option linter.unusedSimpArgs false
set_option maxRecDepth 20000
namespace Go.Flat
open Go.Proofs
variable {G : Glob}
def Zda (p : Nat → Bool) (n : Nat) : List Nat := (List.range n).filter p
def Zij (p : Nat → Bool) (i : Nat) : Nat := (Zda p i).length
theorem Zlg (p : Nat → Bool) (n : Nat) : Zda p (n + 1) = Zda p n ++ (if p n = true then [n] else []) := by
  unfold Zda; rw [List.range_succ, List.filter_append]; cases h : p n <;> simp [h]
theorem Zn7 (p : Nat → Bool) (n : Nat) : Zij p (n + 1) = Zij p n + (if p n = true then 1 else 0) := by
  unfold Zij; rw [Zlg, List.length_append]; cases h : p n <;> simp
theorem Zmh {p : Nat → Bool} {i : Nat} : ∀ {n : Nat}, i < n → p i = true → (Zda p n).getD (Zij p i) 0 = i ∧ Zij p i < (Zda p n).length
 | 0, h, _ => absurd h (by omega)
 | n + 1, h, hp => by
  rw [Zlg]
  rcases Nat.lt_or_ge i n with q | q
  ·obtain ⟨h1, h2⟩ := Zmh q hp
   refine ⟨?_, by rw [List.length_append]; omega⟩
   rw [List.getD_eq_getElem?_getD, List.getElem?_append_left h2, ← List.getD_eq_getElem?_getD]; exact h1
  ·obtain rfl : i = n := by omega
   rw [if_pos hp]
   refine ⟨?_, by rw [List.length_append]; exact Nat.lt_succ_self _⟩
   show (Zda p i ++ [i]).getD (Zda p i).length 0 = i
   rw [List.getD_eq_getElem?_getD, List.getElem?_append_right (Nat.le_refl _), Nat.sub_self]; rfl
theorem Zmi {p : Nat → Bool} {k : Nat} : ∀ {n : Nat}, k < (Zda p n).length → (Zda p n).getD k 0 < n ∧ p ((Zda p n).getD k 0) = true ∧ Zij p ((Zda p n).getD k 0) = k
 | 0, h => absurd h (by simp [Zda])
 | n + 1, h => by
  rw [Zlg] at h ⊢
  rcases Nat.lt_or_ge k (Zda p n).length with q | q
  ·obtain ⟨h1, h2, h3⟩ := Zmi q
   rw [List.getD_eq_getElem?_getD, List.getElem?_append_left q, ← List.getD_eq_getElem?_getD]
   exact ⟨by omega, h2, h3⟩
  ·cases hp : p n with
   | false => rw [hp] at h; simp at h; omega
   | true =>
    rw [if_pos hp, List.length_append] at h
    have e : k = (Zda p n).length := by simp at h; omega
    subst e
    have e2 : (Zda p n ++ [n]).getD (Zda p n).length 0 = n := by
     rw [List.getD_eq_getElem?_getD, List.getElem?_append_right (Nat.le_refl _), Nat.sub_self]; rfl
    rw [if_pos rfl, e2]
    exact ⟨by omega, hp, rfl⟩
theorem Zxs {p : Nat → Bool} {i : Nat} {ok : Nat → Prop} (hp : p i = true) (h : ∀ j, j < Zij p i → ok j) (h1 : ok (Zij p i)) : ∀ j, j < Zij p (i + 1) → ok j := by
 intro j hj
 rw [Zn7, if_pos hp] at hj
 rcases Nat.lt_or_ge j (Zij p i) with q | q
 ·exact h j q
 ·rw [show j = Zij p i by omega]; exact h1
theorem Zvz {p : Nat → Bool} {i : Nat} {ok : Nat → Prop} (hp : p i = false) (h : ∀ j, j < Zij p i → ok j) : ∀ j, j < Zij p (i + 1) → ok j := by
 intro j hj
 rw [Zn7, if_neg (by rw [hp]; decide)] at hj
 exact h j hj
def usP (l : List Item) (cl : Int) (i : Nat) : Bool := decide ((l.getD i default).entry.kind = 1 ∧ (l.getD i default).entry.client = cl)
def Zy0 (c s : Int) : Nat → List Item → Int × Bool
  | _, [] => (0, false)
  | i, x :: l => if x.entry.kind = 1 ∧ x.entry.client = c ∧ x.entry.seq = s then ((i : Int), true) else Zy0 c s (i + 1) l
def Z2l (l : List Item) (c s : Int) : Int × Bool := Zy0 c s 0 l
def Z02 (c s : Int) (x : Item) : Bool := decide (x.entry.kind = 1 ∧ x.entry.client = c ∧ s ≤ x.entry.seq)
def Zig (l : List Item) (c s : Int) : Bool := l.any (Z02 c s)
theorem Zti {l : List Item} {p : Item → Bool} : l.any p = true ↔ ∃ i, i < l.length ∧ p (l.getD i default) = true := by
 rw [List.any_eq_true]
 constructor
 ·rintro ⟨x, hx, hp⟩
  obtain ⟨i, hi, rfl⟩ := List.getElem_of_mem hx
  exact ⟨i, hi, by rw [List.getD_eq_getElem?_getD, List.getElem?_eq_getElem hi]; exact hp⟩
 ·rintro ⟨i, hi, hp⟩
  rw [List.getD_eq_getElem?_getD, List.getElem?_eq_getElem hi] at hp
  exact ⟨_, List.getElem_mem hi, hp⟩
theorem Zt8 {l : List Item} {n k : Nat} {c s : Int} (hn : l.length = n) (hk : k < (Zda (usP l c) n).length) (h : s ≤ (l.getD ((Zda (usP l c) n).getD k 0) default).entry.seq) : Zig l c s = true := by
 obtain ⟨h1, h2, _⟩ := Zmi hk
 have h4 := of_decide_eq_true h2
 exact Zti.2 ⟨_, by omega, decide_eq_true ⟨h4.1, h4.2, h⟩⟩
theorem Zkp {l : List Item} {n : Nat} {c s : Int} (hn : l.length = n) (hall : ∀ k, k < (Zda (usP l c) n).length → ¬ s ≤ (l.getD ((Zda (usP l c) n).getD k 0) default).entry.seq) : Zig l c s = false := by
 cases h : Zig l c s with
 | false => rfl
 | true =>
  obtain ⟨i, hi, hp⟩ := Zti.1 h
  have q := of_decide_eq_true hp
  have hu : usP l c i = true := decide_eq_true ⟨q.1, q.2.1⟩
  have h5 := Zmh (n := n) (by omega) hu
  have := hall _ h5.2
  rw [h5.1] at this
  exact absurd q.2.2 this
def Zd1 (l : List Item) (n : Nat) (x : Item) : Int :=
  if ¬ Zb2 l ∨ ¬ Zbb x then 100 else if 0 < n ∧ x.epoch < (l.getD (n - 1) default).epoch then 102 else if 2000 ≤ n then 2 else if x.entry.kind ≠ 1 then 0 else if Zig l x.entry.client x.entry.seq = true then 101 else 0
section
variable {l : List Item} {n : Nat} {x : Item}
theorem Zmc (h : ¬ Zb2 l ∨ ¬ Zbb x) : Zd1 l n x = 100 := if_pos h
theorem Zit (h1 : Zb2 l) (h2 : Zbb x) : ¬ (¬ Zb2 l ∨ ¬ Zbb x) := fun q => q.elim (fun q => q h1) fun q => q h2
theorem Zt4 (h1 : Zb2 l) (h2 : Zbb x) (h3 : 0 < n) (h4 : x.epoch < (l.getD (n - 1) default).epoch) : Zd1 l n x = 102 := by
 unfold Zd1; rw [if_neg (Zit h1 h2), if_pos ⟨h3, h4⟩]
theorem Zy4 (h1 : Zb2 l) (h2 : Zbb x) (h3 : ¬ (0 < n ∧ x.epoch < (l.getD (n - 1) default).epoch)) (h4 : 2000 ≤ n) : Zd1 l n x = 2 := by
 unfold Zd1; rw [if_neg (Zit h1 h2), if_neg h3, if_pos h4]
theorem Zlp (h1 : Zb2 l) (h2 : Zbb x) (h3 : ¬ (0 < n ∧ x.epoch < (l.getD (n - 1) default).epoch)) (h4 : ¬ 2000 ≤ n) (h5 : x.entry.kind ≠ 1) : Zd1 l n x = 0 := by
 unfold Zd1; rw [if_neg (Zit h1 h2), if_neg h3, if_neg h4, if_pos h5]
theorem Zmd (h1 : Zb2 l) (h2 : Zbb x) (h3 : ¬ (0 < n ∧ x.epoch < (l.getD (n - 1) default).epoch)) (h4 : ¬ 2000 ≤ n) (h5 : x.entry.kind = 1) (h6 : Zig l x.entry.client x.entry.seq = true) : Zd1 l n x = 101 := by
 unfold Zd1; rw [if_neg (Zit h1 h2), if_neg h3, if_neg h4, if_neg (fun q => q h5), if_pos h6]
theorem Zha (h1 : Zb2 l) (h2 : Zbb x) (h3 : ¬ (0 < n ∧ x.epoch < (l.getD (n - 1) default).epoch)) (h4 : ¬ 2000 ≤ n) (h5 : x.entry.kind = 1) (h6 : Zig l x.entry.client x.entry.seq = false) : Zd1 l n x = 0 := by
 unfold Zd1; rw [if_neg (Zit h1 h2), if_neg h3, if_neg h4, if_neg (fun q => q h5), if_neg (by rw [h6]; decide)]
end
theorem Zr0 (l : List Item) (n c : Nat) (hn : l.length = n) (hc : n ≤ c) (hb : n ≤ 1048576) (cl : Int) : Zat Try.prog G 65 [slv 0 0 n c, Iv cl] [rwR Zj l] (.func (.func 71) #[] #[pt 1 0, pt 2 0]) [rwR Zj l, rfB (slv 0 0 n c), bxB 1 ([Iv cl])] := by
 refine Zcg (fn := Try.f65) (nt := 6) rfl rfl rfl rfl ?_
 refine Za8 2 (H' := [rwR Zj l, hole, hole]) rfl ?_
 refine Zi (Zm (Zbn (v := slv 0 0 n c) (b := rfB (slv 0 0 n c)) (nid := 1) (H' := [rwR Zj l, rfB (slv 0 0 n c), hole]) (Zbn (v := Iv cl) (b := bxB 1 ([Iv cl])) (nid := 2) (H' := [rwR Zj l, rfB (slv 0 0 n c), bxB 1 ([Iv cl])]) (Zc .nilFunc (Zd (Ze (Zi (Zm ?_))))))))
 refine Zou (vs := []) (ws := [pt 1 0, pt 2 0]) rfl rfl rfl rfl rfl ?_
 refine Zc (.func (.func 71) #[] #[pt 1 0, pt 2 0]) (Zd (Ze (Zs (Zq ?_))))
 exact Zar [0, 1, 2] (v := .func (.func 71) #[] #[pt 1 0, pt 2 0]) rfl (by kernel_rfl) rfl rfl (by decide) (by simp [Zbr, rwR, rfB, bxB, Zq6, Zie, Zj]) ⟨by simp [Zgo, Zeh, Zji, idE], by kernel_rfl⟩
theorem Zox (l : List Item) (n c : Nat) (hn : l.length = n) (hc : n ≤ c) (hb : n ≤ 1048576) (client seq : Int) : Zat Try.prog G 55 [slv 0 0 n c, Iv client, Iv seq] [rwR Zj l] (.bool (Zig l client seq)) [rwR Zj l] := by
 refine Zcg (fn := Try.f55) (nt := 35) rfl rfl rfl rfl ?_
 refine Zi (Zm (Zc (.bool false) (Zd (Ze (Zi (Zi (Zm (Zc (Iv 0) (Zd (Ze (Zav ?_)))))))))))
 refine Zdz (fun i : Nat => [slv 0 0 n c, Iv client, Iv seq, dead, dead, dead, dead, Iv (i : Nat)]) (fun i : Nat => [rwR Zj l]) (fun i : Nat => (l.drop i).any (Z02 client seq) = Zig l client seq ∧ i ≤ n) (fun i : Nat => n - i) 0 ⟨rfl, by omega⟩ ?_ ?_
 ·refine Zau (n := 1) rfl ?_ (by kernel_rfl) (by kernel_rfl)
  repeat (first | exact trivial | refine ⟨.inl rfl, ?_⟩ | refine ⟨.inr ⟨rfl, rfl⟩, ?_⟩ | refine ⟨.inr ⟨congrArg (Value.int .i64) (by first | omega | (dsimp only; omega)), rfl⟩, ?_⟩)
 rintro i ⟨hR, hi⟩
 refine Za8 1 (H' := [rwR Zj l, hole]) rfl ?_
 refine Zi (Zi (Zm (Zb (Iv (i : Nat)) (Zb (slv 0 0 n c) (Zbg (p := slv 0 0 n c) (v := Iv (n : Nat)) ?_)))))
 by_cases h1 : (i : Nat) < (n : Nat)
 refine Zn (vx := Iv (i : Nat)) (vy := Iv (n : Nat)) rfl rfl (.bool true) rfl rfl (Zdq (by omega)) ?_
 refine Zd (Ze (Z4 rfl (Z9 (Ze (Zi (Zav (Zi (Zm (Zb (slv 0 0 n c) (Zb (Iv (i : Nat)) ?_))))))))))
 refine Zb0 (b := 0) (o := 0) (j := i * 110) (m := n) (c := c) (sz := 110) (i := (i : Nat)) (k := .i64) rfl rfl rfl rfl rfl (by omega) (by omega) (by omega) ?_
 refine Zas (b := 0) (o := i * 110) (n := 1) (o' := i * 110 + 1) rfl rfl rfl rfl (by omega) ?_
 refine Zba (p := pt 0 (i * 110 + 1)) (v := Zdg ((l.getD i default).entry)) rfl rfl rfl (Zon Zj (l := l) (i := i) (k := 1) (m := 110) rfl rfl rfl rfl (by have := hn; omega) (by omega) (by decide) (by kernel_rfl)) ?_
 refine Zbf (b := bxB 109 (Zdd (⟨0, 0, 0, ⟨#[]⟩, (⟨(⟨0, 0, 0, dz, 0⟩ : Head), 0, dz⟩ : Signed), (⟨0, 0, 0, 0, dz⟩ : Claim)⟩ : Entry))) (nid := 1) (H' := [rwR Zj l, bxB 109 (Zdd (⟨0, 0, 0, ⟨#[]⟩, (⟨(⟨0, 0, 0, dz, 0⟩ : Head), 0, dz⟩ : Signed), (⟨0, 0, 0, 0, dz⟩ : Claim)⟩ : Entry))]) (Z5 (p := pt 1 0) (v := Zdg ((l.getD i default).entry)) (b := 1) (blk := bxB 109 (Zdd ((l.getD i default).entry))) (H' := [rwR Zj l, bxB 109 (Zdd ((l.getD i default).entry))]) (Zd (Ze (Zi (Zm (Zf (b := 1) (o := 0) (n := 0) (o' := 0) (Zl (p := pt 1 0) (v := Iv (((l.getD i default).entry).kind)) ?_)))))))
 by_cases h2 : (((l.getD i default).entry).kind) = 1
 refine Zn (vx := Iv (((l.getD i default).entry).kind)) (vy := Iv 1) rfl rfl (.bool true) rfl rfl (Zaj (by omega)) ?_
 refine Zb (.bool true) (Zf (b := 1) (o := 0) (n := 1) (o' := 1) (Zl (p := pt 1 1) (v := Iv (((l.getD i default).entry).client)) (Zb (Iv client) ?_)))
 by_cases h3 : (((l.getD i default).entry).client) = client
 refine Zn (vx := Iv (((l.getD i default).entry).client)) (vy := Iv client) rfl rfl (.bool true) rfl rfl (Zaj (by omega)) ?_
 refine Zg (.bool true) (Zb (.bool true) (Zf (b := 1) (o := 0) (n := 2) (o' := 2) (Zl (p := pt 1 2) (v := Iv (((l.getD i default).entry).seq)) (Zb (Iv seq) ?_))))
 by_cases h4 : seq ≤ (((l.getD i default).entry).seq)
 refine Zn (vx := Iv (((l.getD i default).entry).seq)) (vy := Iv seq) rfl rfl (.bool true) rfl rfl (Zic (by omega)) ?_
 refine Zg (.bool true) (Zd (Ze (Z4 rfl (Zi (Zm (Zc (.bool true) (Zd (Ze (Zs (Zy (Zv (Zb5 (Zy (Zv (Zq ?_)))))))))))))))
 rw [show Zig l client seq = true from Zpa hR (by omega) (decide_eq_true ⟨by omega, by omega, by omega⟩)]
 exact Zk (v := .bool true) rfl rfl rfl (by kernel_rfl) rfl
 refine Zn (vx := Iv (((l.getD i default).entry).seq)) (vy := Iv seq) rfl rfl (.bool false) rfl rfl (Zho (by omega)) ?_
 refine Zg (.bool false) (Zd (Ze (Zz rfl (Z9 (Z7 (Ze (Zm (Zb (Iv (i : Nat)) ?_))))))))
 refine Zn (vx := Iv (i : Nat)) (vy := Iv 1) rfl rfl (Iv ((i : Nat) + 1)) rfl rfl (Zbi (by omega) (by omega) (by omega)) ?_
 refine Zc (Iv ((i : Nat) + 1)) (Zd ?_)
 refine Zad ⟨(i + 1), ⟨Zj8 hR (by omega) (decide_eq_false (fun q => by have := q.1; have := q.2.1; have := q.2.2; omega)), by omega⟩, by show n - (i + 1) < n - i; omega, ?_⟩
 refine Zau (n := 1) rfl ?_ (by kernel_rfl) (by kernel_rfl)
 repeat (first | exact trivial | refine ⟨.inl rfl, ?_⟩ | refine ⟨.inr ⟨rfl, rfl⟩, ?_⟩ | refine ⟨.inr ⟨congrArg (Value.int .i64) (by first | omega | (dsimp only; omega)), rfl⟩, ?_⟩)
 refine Zn (vx := Iv (((l.getD i default).entry).client)) (vy := Iv client) rfl rfl (.bool false) rfl rfl (Zaq (by omega)) ?_
 refine Zg (.bool false) (Zb (.bool false) (Za (Za (Za (Za (Zg (.bool false) (Zd (Ze (Zz rfl (Z9 (Z7 (Ze (Zm (Zb (Iv (i : Nat)) ?_))))))))))))))
 refine Zn (vx := Iv (i : Nat)) (vy := Iv 1) rfl rfl (Iv ((i : Nat) + 1)) rfl rfl (Zbi (by omega) (by omega) (by omega)) ?_
 refine Zc (Iv ((i : Nat) + 1)) (Zd ?_)
 refine Zad ⟨(i + 1), ⟨Zj8 hR (by omega) (decide_eq_false (fun q => by have := q.1; have := q.2.1; have := q.2.2; omega)), by omega⟩, by show n - (i + 1) < n - i; omega, ?_⟩
 refine Zau (n := 1) rfl ?_ (by kernel_rfl) (by kernel_rfl)
 repeat (first | exact trivial | refine ⟨.inl rfl, ?_⟩ | refine ⟨.inr ⟨rfl, rfl⟩, ?_⟩ | refine ⟨.inr ⟨congrArg (Value.int .i64) (by first | omega | (dsimp only; omega)), rfl⟩, ?_⟩)
 refine Zn (vx := Iv (((l.getD i default).entry).kind)) (vy := Iv 1) rfl rfl (.bool false) rfl rfl (Zaq (by omega)) ?_
 refine Zb (.bool false) (Za (Za (Za (Za (Zg (.bool false) (Zb (.bool false) (Za (Za (Za (Za (Zg (.bool false) (Zd (Ze (Zz rfl (Z9 (Z7 (Ze (Zm (Zb (Iv (i : Nat)) ?_)))))))))))))))))))
 refine Zn (vx := Iv (i : Nat)) (vy := Iv 1) rfl rfl (Iv ((i : Nat) + 1)) rfl rfl (Zbi (by omega) (by omega) (by omega)) ?_
 refine Zc (Iv ((i : Nat) + 1)) (Zd ?_)
 refine Zad ⟨(i + 1), ⟨Zj8 hR (by omega) (decide_eq_false (fun q => by have := q.1; have := q.2.1; have := q.2.2; omega)), by omega⟩, by show n - (i + 1) < n - i; omega, ?_⟩
 refine Zau (n := 1) rfl ?_ (by kernel_rfl) (by kernel_rfl)
 repeat (first | exact trivial | refine ⟨.inl rfl, ?_⟩ | refine ⟨.inr ⟨rfl, rfl⟩, ?_⟩ | refine ⟨.inr ⟨congrArg (Value.int .i64) (by first | omega | (dsimp only; omega)), rfl⟩, ?_⟩)
 refine Zn (vx := Iv (i : Nat)) (vy := Iv (n : Nat)) rfl rfl (.bool false) rfl rfl (Zdp (by omega)) ?_
 refine Zd (Ze (Zz rfl (Zez (Zd3 (Zc3 (Zdt rfl (Ze (Zi (Zm (Zc (.bool false) (Zd (Ze (Zs (Zq ?_))))))))))))))
 rw [show Zig l client seq = false from by rw [← hR, List.drop_of_length_le (by omega)]; rfl]
 exact Zk (v := .bool false) rfl rfl rfl (by kernel_rfl) rfl
theorem Zuh (l : List Item) (n c : Nat) (hn : l.length = n) (hc : n ≤ c) (hb : n ≤ 1048576) (x : Item) (ok : Nat → Prop) : Zvn Try.prog G 71 [pt 3 0, pt 4 0] (Zda (usP l x.entry.client) n).length (fun k => [Iv ((Zda (usP l x.entry.client) n).getD k 0 : Nat), Zdg (l.getD ((Zda (usP l x.entry.client) n).getD k 0) default).entry]) [rwR Zj l, bxB 110 (Z1 x), bxB 1 ([Iv 0]), rfB (slv 0 0 n c), bxB 1 ([Iv x.entry.client])] (fun k => [rwR Zj l, bxB 110 (Z1 x), bxB 1 ([Iv 0]), rfB (slv 0 0 n c), bxB 1 ([Iv x.entry.client]), bxB 110 (Z1 (l.getD ((Zda (usP l x.entry.client) n).getD k 0) default))]) (fun k => [rwR Zj l, bxB 110 (Z1 x), bxB 1 ([Iv 0]), rfB (slv 0 0 n c), bxB 1 ([Iv x.entry.client]), bxB 110 (Z1 (l.getD ((Zda (usP l x.entry.client) n).getD k 0) default))]) ok [rwR Zj l, bxB 110 (Z1 x), bxB 1 ([Iv 0]), rfB (slv 0 0 n c), bxB 1 ([Iv x.entry.client])] := by
 refine Zsf (fn := Try.f71) rfl rfl (nt := 33) rfl rfl rfl ?_
 intro E l' Stop hE hd hY
 refine Zjt ?_
 refine Zik (by kernel_rfl) ?_
 refine Zba (p := pt 3 0) (v := slv 0 0 n c) rfl rfl rfl rfl ?_
 refine Zbg (p := slv 0 0 n c) (v := Iv (n : Nat)) (Zb (Iv 0) (Zd (Zad (Zqj ?_))))
 refine Zxx hE (fun i : Nat => [.func (.yield l') #[] #[], pt 3 0, pt 4 0, dead, dead, dead, slv 0 0 n c, Iv (n : Nat), Iv (i : Nat)]) (fun i : Nat => [rwR Zj l, bxB 110 (Z1 x), bxB 1 ([Iv 0]), rfB (slv 0 0 n c), bxB 1 ([Iv x.entry.client])]) (fun i : Nat => (∀ j, j < Zij (usP l x.entry.client) i → ok j) ∧ i ≤ n) (fun i : Nat => n - i) 0 ⟨fun _ h => absurd h (by simp [Zij, Zda]), by omega⟩ ?_ ?_
 ·refine Zau (n := 5) rfl ?_ (by kernel_rfl) (by kernel_rfl)
  repeat (first | exact trivial | refine ⟨.inl rfl, ?_⟩ | refine ⟨.inr ⟨rfl, rfl⟩, ?_⟩ | refine ⟨.inr ⟨congrArg (Value.int .i64) (by first | omega | (dsimp only; omega)), rfl⟩, ?_⟩)
 rintro i ⟨hks, hi⟩
 refine Zxw hE 1 (H' := [rwR Zj l, bxB 110 (Z1 x), bxB 1 ([Iv 0]), rfB (slv 0 0 n c), bxB 1 ([Iv x.entry.client]), hole]) rfl ?_
 refine Zjt ?_
 refine Zik (by kernel_rfl) ?_
 by_cases h1 : (i : Nat) < (n : Nat)
 refine Zn (vx := Iv (i : Nat)) (vy := Iv (n : Nat)) rfl rfl (.bool true) rfl rfl (Zdq (by omega)) ?_
 refine Zd (Zad (Zjt (Zxy rfl (Zl7 (Zad (Zjt (Zqj (Zjt ?_))))))))
 refine Zik (by kernel_rfl) ?_
 refine Zb (Iv (i : Nat)) ?_
 refine Zb0 (b := 0) (o := 0) (j := i * 110) (m := n) (c := c) (sz := 110) (i := (i : Nat)) (k := .i64) rfl rfl rfl rfl rfl (by omega) (by omega) (by omega) ?_
 refine Zba (p := pt 0 (i * 110)) (v := Zal (l.getD i default)) rfl rfl rfl (Zcm (n := 0) (m := 110) Zj rfl rfl rfl rfl (by have := hn; omega) (by omega)) ?_
 refine Zbf (b := bxB 110 (Z1 (⟨0, (⟨0, 0, 0, ⟨#[]⟩, (⟨(⟨0, 0, 0, dz, 0⟩ : Head), 0, dz⟩ : Signed), (⟨0, 0, 0, 0, dz⟩ : Claim)⟩ : Entry)⟩ : Item))) (nid := 5) (H' := [rwR Zj l, bxB 110 (Z1 x), bxB 1 ([Iv 0]), rfB (slv 0 0 n c), bxB 1 ([Iv x.entry.client]), bxB 110 (Z1 (⟨0, (⟨0, 0, 0, ⟨#[]⟩, (⟨(⟨0, 0, 0, dz, 0⟩ : Head), 0, dz⟩ : Signed), (⟨0, 0, 0, 0, dz⟩ : Claim)⟩ : Entry)⟩ : Item))]) (Zc (Iv (i : Nat)) (Z5 (p := pt 5 0) (v := Zal (l.getD i default)) (b := 5) (blk := bxB 110 (Z1 (l.getD i default))) (H' := [rwR Zj l, bxB 110 (Z1 x), bxB 1 ([Iv 0]), rfB (slv 0 0 n c), bxB 1 ([Iv x.entry.client]), bxB 110 (Z1 (l.getD i default))]) (Zd (Zad (Zjt ?_)))))
 by_cases h2 : (((l.getD i default).entry).kind) = 1
 by_cases h3 : (((l.getD i default).entry).client) = x.entry.client
 have hlt : i < n := by omega
 have hp : (usP l x.entry.client) i = true := decide_eq_true ⟨by omega, by omega⟩
 refine Zuq (fun w' h => ⟨w', h, rfl⟩) 16 rfl rfl rfl (by kernel_rfl) ?_
 refine Zf (b := 5) (o := 0) (n := 1) (o' := 1) (Zf (b := 5) (o := 1) (n := 0) (o' := 1) (Zl (p := pt 5 1) (v := Iv (((l.getD i default).entry).kind)) ?_))
 refine Zn (vx := Iv (((l.getD i default).entry).kind)) (vy := Iv 1) rfl rfl (.bool true) rfl rfl (Zaj (by omega)) ?_
 refine Zb (.bool true) (Zf (b := 5) (o := 0) (n := 1) (o' := 1) (Zf (b := 5) (o := 1) (n := 1) (o' := 2) (Zl (p := pt 5 2) (v := Iv (((l.getD i default).entry).client)) (Zl (p := pt 4 0) (v := Iv x.entry.client) ?_))))
 refine Zn (vx := Iv (((l.getD i default).entry).client)) (vy := Iv x.entry.client) rfl rfl (.bool true) rfl rfl (Zaj (by omega)) ?_
 refine Zg (.bool true) (Zb (.bool true) (Zb (.func (.yield l') #[] #[]) (Zb (Iv (i : Nat)) (Zf (b := 5) (o := 0) (n := 1) (o' := 1) (Zl (p := pt 5 1) (v := Zdg ((l.getD i default).entry)) ?_)))))
 refine Zpy ?_
 show Zo9 _ _ _ _ _ _ _ _ _ _ _ _ _ _
 unfold Zo9
 refine ⟨l', [Iv (i : Nat), Zdg ((l.getD i default).entry)], [rwR Zj l, bxB 110 (Z1 x), bxB 1 ([Iv 0]), rfB (slv 0 0 n c), bxB 1 ([Iv x.entry.client]), bxB 110 (Z1 (l.getD i default))], (ok (Zij (usP l x.entry.client) i)), rfl, rfl, rfl, by decide, (by have h := hY (Zij (usP l x.entry.client) i) (Zmh hlt hp).2 hks; rw [(Zmh hlt hp).1] at h; exact h), fun hok => ?_, ?_⟩
 refine Zcx (vx := .bool true) rfl rfl (.bool false) rfl Za3 ?_
 refine Zg (.bool false) (Zd (Zad (Zkc rfl (Zl7 (Z7 (Zad ?_))))))
 refine Zik (by kernel_rfl) ?_
 refine Zn (vx := Iv (i : Nat)) (vy := Iv 1) rfl rfl (Iv ((i : Nat) + 1)) rfl rfl (Zbi (by omega) (by omega) (by omega)) ?_
 refine Zb (Iv ((i : Nat) + 1)) (Zd ?_)
 refine Zad ⟨(i + 1), ⟨Zxs (by exact decide_eq_true ⟨by omega, by omega⟩) hks hok, by omega⟩, by show n - (i + 1) < n - i; omega, ?_⟩
 refine Zau (n := 5) rfl ?_ (by kernel_rfl) (by kernel_rfl)
 repeat (first | exact trivial | refine ⟨.inl rfl, ?_⟩ | refine ⟨.inr ⟨rfl, rfl⟩, ?_⟩ | refine ⟨.inr ⟨congrArg (Value.int .i64) (by first | omega | (dsimp only; omega)), rfl⟩, ?_⟩)
 refine Zcx (vx := .bool false) rfl rfl (.bool true) rfl Za3 ?_
 refine Zg (.bool true) (Zd (Zad (Zgn rfl (Zgz (Zy (Zb5 (Zb5 (Zy ?_))))))))
 exact ⟨.inr rfl⟩
 refine Zik (by kernel_rfl) ?_
 refine Zf (b := 5) (o := 0) (n := 1) (o' := 1) (Zf (b := 5) (o := 1) (n := 0) (o' := 1) (Zl (p := pt 5 1) (v := Iv (((l.getD i default).entry).kind)) ?_))
 refine Zn (vx := Iv (((l.getD i default).entry).kind)) (vy := Iv 1) rfl rfl (.bool true) rfl rfl (Zaj (by omega)) ?_
 refine Zb (.bool true) (Zf (b := 5) (o := 0) (n := 1) (o' := 1) (Zf (b := 5) (o := 1) (n := 1) (o' := 2) (Zl (p := pt 5 2) (v := Iv (((l.getD i default).entry).client)) (Zl (p := pt 4 0) (v := Iv x.entry.client) ?_))))
 refine Zn (vx := Iv (((l.getD i default).entry).client)) (vy := Iv x.entry.client) rfl rfl (.bool false) rfl rfl (Zaq (by omega)) ?_
 refine Zg (.bool false) (Zb (.bool false) (Za (Za (Za (Za (Za (Za (Zg (.bool false) (Zd (Zad (Zkc rfl (Zl7 (Z7 (Zad ?_))))))))))))))
 refine Zik (by kernel_rfl) ?_
 refine Zn (vx := Iv (i : Nat)) (vy := Iv 1) rfl rfl (Iv ((i : Nat) + 1)) rfl rfl (Zbi (by omega) (by omega) (by omega)) ?_
 refine Zb (Iv ((i : Nat) + 1)) (Zd ?_)
 refine Zad ⟨(i + 1), ⟨Zvz (by exact decide_eq_false (fun q => by have := q.1; have := q.2; omega)) hks, by omega⟩, by show n - (i + 1) < n - i; omega, ?_⟩
 refine Zau (n := 5) rfl ?_ (by kernel_rfl) (by kernel_rfl)
 repeat (first | exact trivial | refine ⟨.inl rfl, ?_⟩ | refine ⟨.inr ⟨rfl, rfl⟩, ?_⟩ | refine ⟨.inr ⟨congrArg (Value.int .i64) (by first | omega | (dsimp only; omega)), rfl⟩, ?_⟩)
 refine Zik (by kernel_rfl) ?_
 refine Zf (b := 5) (o := 0) (n := 1) (o' := 1) (Zf (b := 5) (o := 1) (n := 0) (o' := 1) (Zl (p := pt 5 1) (v := Iv (((l.getD i default).entry).kind)) ?_))
 refine Zn (vx := Iv (((l.getD i default).entry).kind)) (vy := Iv 1) rfl rfl (.bool false) rfl rfl (Zaq (by omega)) ?_
 refine Zb (.bool false) (Za (Za (Za (Za (Za (Zg (.bool false) (Zb (.bool false) (Za (Za (Za (Za (Za (Za (Zg (.bool false) (Zd (Zad (Zkc rfl (Zl7 (Z7 (Zad ?_))))))))))))))))))))
 refine Zik (by kernel_rfl) ?_
 refine Zn (vx := Iv (i : Nat)) (vy := Iv 1) rfl rfl (Iv ((i : Nat) + 1)) rfl rfl (Zbi (by omega) (by omega) (by omega)) ?_
 refine Zb (Iv ((i : Nat) + 1)) (Zd ?_)
 refine Zad ⟨(i + 1), ⟨Zvz (by exact decide_eq_false (fun q => by have := q.1; have := q.2; omega)) hks, by omega⟩, by show n - (i + 1) < n - i; omega, ?_⟩
 refine Zau (n := 5) rfl ?_ (by kernel_rfl) (by kernel_rfl)
 repeat (first | exact trivial | refine ⟨.inl rfl, ?_⟩ | refine ⟨.inr ⟨rfl, rfl⟩, ?_⟩ | refine ⟨.inr ⟨congrArg (Value.int .i64) (by first | omega | (dsimp only; omega)), rfl⟩, ?_⟩)
 refine Zn (vx := Iv (i : Nat)) (vy := Iv (n : Nat)) rfl rfl (.bool false) rfl rfl (Zdp (by omega)) ?_
 refine Zd (Zad (Zjt (Zkc rfl (Zxv (Zc3 (Zc3 (Zdt rfl ?_)))))))
 exact ⟨⟨.inl rfl, fun j hj => hks j (by rw [show i = n by omega]; exact hj), _, Zau (l := []) (n := 5) rfl trivial (by kernel_rfl) (by kernel_rfl)⟩⟩
abbrev Y1 (x : Item) : Blk := bxB 1 ([Iv x.entry.client])
theorem Zze (l : List Item) (n c : Nat) (hn : l.length = n) (hc : n ≤ c) (hb : n ≤ 1048576) (x : Item) : Zat Try.prog G 53 [slv 0 0 n c, Zal x] [rwR Zj l] (Iv (Zd1 l n x)) [rwR Zj l] := by
  refine Zat.introM (fn := Try.f53) rfl rfl (nt := 54) rfl rfl ?_
  refine Zk5 (Zpi ?_)
  refine Zpj 4 (H' := [rwR Zj l, hole, hole, hole, hole]) rfl ?_
  refine Zdw (by kernel_rfl) ?_
  refine Zbn (v := Zal x) (b := bxB 110 (Z1 x)) (nid := 1) (H' := [rwR Zj l, bxB 110 (Z1 x), hole, hole, hole]) (Zbf (b := bxB 1 ([Iv 0])) (nid := 2) (H' := [rwR Zj l, bxB 110 (Z1 x), bxB 1 ([Iv 0]), hole, hole]) (Zd (Zad (Zk5 (Zpi (Zmp (Zeu ?_)))))))
  refine Zdw (by kernel_rfl) ?_
  refine Zb (slv 0 0 n c) ?_
  refine Zab (e := [some (0, 0)]) (nid := 0) (Zi5 (G := G) l n c hn (by omega) (by omega)) (vals := [slv 0 0 n c]) (v := Iv (Zgm l)) (H' := [rwR Zj l, bxB 110 (Z1 x), bxB 1 ([Iv 0]), hole, hole]) rfl rfl rfl rfl rfl rfl rfl ⟨⟨⟨rfl, rfl, rfl, by first | omega | exact Nat.le_refl _, by first | omega | exact Nat.le_refl _⟩, trivial⟩, ⟨(Zaf rfl), trivial⟩, rfl, rfl, rfl⟩ rfl (by kernel_rfl) ?_
  by_cases h1 : (Zgm l) ≠ 0
  refine Zn (vx := Iv (Zgm l)) (vy := Iv 0) rfl rfl (.bool true) rfl rfl (Zd5 (by omega)) ?_
  refine Zb (.bool true) (Za (Za (Za (Zg (.bool true) (Zc (.bool true) (Zd (Zad (Zgn rfl (Zeu ?_)))))))))
  refine Zdw (by kernel_rfl) ?_
  refine Z5 (p := pt 2 0) (v := Iv 100) (b := 2) (blk := bxB 1 ([Iv 100])) (H' := [rwR Zj l, bxB 110 (Z1 x), bxB 1 ([Iv 100]), hole, hole]) (Zd (Zad (Zgz (Zy (Zb5 (Zq ?_))))))
  rw [show Zd1 l n x = 100 from Zmc (by first | exact .inl (Z6 (by omega)) | exact .inl (of_decide_eq_false (by assumption)) | exact .inr (of_decide_eq_false (by assumption)))]
  exact Zar [0] (v := Iv 100) rfl (by kernel_rfl) rfl rfl (by decide) (by simp [Zbr, rwR, Zj]) rfl
  refine Zn (vx := Iv (Zgm l)) (vy := Iv 0) rfl rfl (.bool false) rfl rfl (Zd4 (by omega)) ?_
  refine Zb (.bool false) (Zl (p := pt 1 0) (v := Zal x) ?_)
  refine Zw (Zrm (G := G) x) (vals := [Zal x]) (res' := .bool (decide (Zbb x))) rfl rfl rfl rfl rfl rfl ?_
  rcases Bool.eq_false_or_eq_true (decide (Zbb x)) with h2 | h2
  refine Zcx (vx := .bool (decide (Zbb x))) rfl rfl (.bool false) rfl (Eq.trans Za3 (congrArg (fun b => some (Value.bool !b)) h2)) ?_
  refine Zg (.bool false) (Zc (.bool false) (Zd (Zad (Zfo rfl (Zeu ?_)))))
  refine Zxt (by kernel_rfl) (by kernel_rfl) ?_
  refine Zb (slv 0 0 n c) (Zbg (p := slv 0 0 n c) (v := Iv (n : Nat)) ?_)
  by_cases h3 : 0 < (n : Nat)
  refine Zn (vx := Iv (n : Nat)) (vy := Iv 0) rfl rfl (.bool true) rfl rfl (Zfe (by omega)) ?_
  refine Zb (.bool true) (Zf (b := 1) (o := 0) (n := 0) (o' := 0) (Zl (p := pt 1 0) (v := Iv x.epoch) (Zb (slv 0 0 n c) (Zb (slv 0 0 n c) (Zbg (p := slv 0 0 n c) (v := Iv (n : Nat)) ?_)))))
  refine Zn (vx := Iv (n : Nat)) (vy := Iv 1) rfl rfl (Iv ((n : Nat) - 1)) rfl rfl (Zg4 (by omega) (by omega) (by omega)) ?_
  refine Zb0 (b := 0) (o := 0) (j := (n - 1) * 110) (m := n) (c := c) (sz := 110) (i := (n : Nat) - 1) (k := .i64) rfl rfl rfl rfl rfl (by omega) (by omega) (by omega) ?_
  refine Zas (b := 0) (o := (n - 1) * 110) (n := 0) (o' := (n - 1) * 110) rfl rfl rfl rfl (by omega) ?_
  refine Zba (p := pt 0 ((n - 1) * 110)) (v := Iv ((l.getD (n - 1) default).epoch)) rfl rfl rfl (Zef Zj (l := l) (i := n - 1) (k := 0) (m := 110) rfl rfl rfl rfl (by have := hn; omega) (by omega) (by kernel_rfl) rfl) ?_
  by_cases h4 : x.epoch < ((l.getD (n - 1) default).epoch)
  refine Zn (vx := Iv x.epoch) (vy := Iv ((l.getD (n - 1) default).epoch)) rfl rfl (.bool true) rfl rfl (Zdq (by omega)) ?_
  refine Zg (.bool true) (Zc (.bool true) ?_)
  refine Zbv (Za4 [[], [0], [0, 1], [0, 1, 2], [0, 1, 2, 3], [0, 1, 2, 3, 4], [0, 1, 2, 3], [0, 1, 2, 3], [0, 1, 2, 3, 7], [0, 1, 2, 3, 7, 8], [0, 1, 2, 3, 6, 7, 8, 9], [0, 1, 2, 3, 6, 7, 8, 9, 10], [0, 1, 2, 3, 6, 7, 8, 9, 10, 11], [0, 1, 2, 3, 4, 5, 6, 7, 8, 9, 10, 11, 12], [0, 1, 2, 3, 4, 5, 6, 7, 8, 9, 10, 11, 12, 13], [0, 1, 2, 3, 4, 5, 6, 7, 8, 9, 10, 11, 12, 13, 14]] (by kernel_rfl) (by kernel_rfl)) ?_
  refine Zad (Zgn rfl (Zeu ?_))
  refine Zdw (by kernel_rfl) ?_
  refine Z5 (p := pt 2 0) (v := Iv 102) (b := 2) (blk := bxB 1 ([Iv 102])) (H' := [rwR Zj l, bxB 110 (Z1 x), bxB 1 ([Iv 102]), hole, hole]) (Zd (Zad (Zgz (Zy (Zb5 (Zq ?_))))))
  rw [show Zd1 l n x = 102 from Zt4 (by first | exact Za5 (by omega) | exact of_decide_eq_true (by assumption)) (of_decide_eq_true (by assumption)) (by omega) (by omega)]
  exact Zar [0] (v := Iv 102) rfl (by kernel_rfl) rfl rfl (by decide) (by simp [Zbr, rwR, Zj]) rfl
  refine Zn (vx := Iv x.epoch) (vy := Iv ((l.getD (n - 1) default).epoch)) rfl rfl (.bool false) rfl rfl (Zdp (by omega)) ?_
  refine Zg (.bool false) (Zc (.bool false) ?_)
  refine Zbv (Za4 [[], [0], [0, 1], [0, 1, 2], [0, 1, 2, 3], [0, 1, 2, 3, 4], [0, 1, 2, 3], [0, 1, 2, 3], [0, 1, 2, 3, 7], [0, 1, 2, 3, 7, 8], [0, 1, 2, 3, 6, 7, 8, 9], [0, 1, 2, 3, 6, 7, 8, 9, 10], [0, 1, 2, 3, 6, 7, 8, 9, 10, 11], [0, 1, 2, 3, 4, 5, 6, 7, 8, 9, 10, 11, 12], [0, 1, 2, 3, 4, 5, 6, 7, 8, 9, 10, 11, 12, 13], [0, 1, 2, 3, 4, 5, 6, 7, 8, 9, 10, 11, 12, 13, 14]] (by kernel_rfl) (by kernel_rfl)) ?_
  refine Zad (Zfo rfl (Zeu ?_))
  refine Zdw (by kernel_rfl) ?_
  refine Zb (slv 0 0 n c) (Zbg (p := slv 0 0 n c) (v := Iv (n : Nat)) ?_)
  by_cases h5 : 2000 ≤ (n : Nat)
  refine Zn (vx := Iv (n : Nat)) (vy := Iv 2000) rfl rfl (.bool true) rfl rfl (Zic (by omega)) ?_
  refine Zc (.bool true) (Zd (Zad (Zgn rfl (Zeu ?_))))
  refine Zdw (by kernel_rfl) ?_
  refine Z5 (p := pt 2 0) (v := Iv 2) (b := 2) (blk := bxB 1 ([Iv 2])) (H' := [rwR Zj l, bxB 110 (Z1 x), bxB 1 ([Iv 2]), hole, hole]) (Zd (Zad (Zgz (Zy (Zb5 (Zq ?_))))))
  rw [show Zd1 l n x = 2 from Zy4 (by first | exact Za5 (by omega) | exact of_decide_eq_true (by assumption)) (of_decide_eq_true (by assumption)) (fun q => by have := q.1; have := q.2; omega) (by omega)]
  exact Zar [0] (v := Iv 2) rfl (by kernel_rfl) rfl rfl (by decide) (by simp [Zbr, rwR, Zj]) rfl
  refine Zn (vx := Iv (n : Nat)) (vy := Iv 2000) rfl rfl (.bool false) rfl rfl (Zho (by omega)) ?_
  refine Zc (.bool false) (Zd (Zad (Zfo rfl (Zeu ?_))))
  refine Zdw (by kernel_rfl) ?_
  refine Zf (b := 1) (o := 0) (n := 1) (o' := 1) (Zf (b := 1) (o := 1) (n := 0) (o' := 1) (Zl (p := pt 1 1) (v := Iv x.entry.kind) ?_))
  by_cases h6 : x.entry.kind ≠ 1
  refine Zn (vx := Iv x.entry.kind) (vy := Iv 1) rfl rfl (.bool true) rfl rfl (Zd5 (by omega)) ?_
  refine Zc (.bool true) (Zd (Zad (Zgn rfl (Zeu ?_))))
  refine Zdw (by kernel_rfl) ?_
  refine Z5 (p := pt 2 0) (v := Iv 0) (b := 2) (blk := bxB 1 ([Iv 0])) (H' := [rwR Zj l, bxB 110 (Z1 x), bxB 1 ([Iv 0]), hole, hole]) (Zd (Zad (Zgz (Zy (Zb5 (Zq ?_))))))
  rw [show Zd1 l n x = 0 from (by first | exact Zlp (by first | exact Za5 (by omega) | exact of_decide_eq_true (by assumption)) (of_decide_eq_true (by assumption)) (fun q => by have := q.1; have := q.2; omega) (by omega) (by omega) | exact Zha (by first | exact Za5 (by omega) | exact of_decide_eq_true (by assumption)) (of_decide_eq_true (by assumption)) (fun q => by have := q.1; have := q.2; omega) (by omega) (by omega) (Zkp hn hall))]
  exact Zar [0] (v := Iv 0) rfl (by kernel_rfl) rfl rfl (by decide) (by simp [Zbr, rwR, Zj]) rfl
  refine Zn (vx := Iv x.entry.kind) (vy := Iv 1) rfl rfl (.bool false) rfl rfl (Zd4 (by omega)) ?_
  refine Zc (.bool false) (Zd (Zad (Zfo rfl (Zl6 (Z7 (Zad (Zk5 (Zk5 (Zpi ?_)))))))))
  refine Zdw (by kernel_rfl) ?_
  refine Zb (slv 0 0 n c) (Zf (b := 1) (o := 0) (n := 1) (o' := 1) (Zf (b := 1) (o := 1) (n := 1) (o' := 2) (Zl (p := pt 1 2) (v := Iv x.entry.client) ?_)))
  refine Zab (e := [some (0, 0)]) (nid := 3) (Zr0 (G := G) l n c hn (by omega) (by omega) x.entry.client) (vals := [slv 0 0 n c, Iv x.entry.client]) (v := .func (.func 71) #[] #[pt 3 0, pt 4 0]) (H' := [rwR Zj l, bxB 110 (Z1 x), bxB 1 ([Iv 0]), rfB (slv 0 0 n c), Y1 x]) rfl rfl rfl rfl rfl rfl rfl ⟨⟨⟨rfl, rfl, rfl, by first | omega | exact Nat.le_refl _, by first | omega | exact Nat.le_refl _⟩, rfl, trivial⟩, ⟨(Zaf rfl), trivial⟩, rfl, rfl, rfl⟩ (by kernel_rfl) (by kernel_rfl) ?_
  refine Zd (Zad ?_)
  have hiter := Zuh (G := G) l n c hn hc hb x (fun k => ¬ x.entry.seq ≤ (l.getD ((Zda (usP l x.entry.client) n).getD k 0) default).entry.seq)
  refine Zqf (lbs := #[pt 3 0, pt 4 0]) (iter := hiter) rfl rfl rfl (by intro _ _; rfl) (by kernel_rfl) ?_ ?_
  · intro lp k hk hks
    have hku := Zmi hk
    refine Zpj 2 (H' := [rwR Zj l, bxB 110 (Z1 x), bxB 1 ([Iv 0]), rfB (slv 0 0 n c), Y1 x, bxB 110 (Z1 (l.getD ((Zda (usP l x.entry.client) n).getD k 0) default)), hole, hole]) rfl ?_
    refine Zdw (by kernel_rfl) ?_
    refine Zbf (b := bxB 109 (Zdd (⟨0, 0, 0, ⟨#[]⟩, (⟨(⟨0, 0, 0, dz, 0⟩ : Head), 0, dz⟩ : Signed), (⟨0, 0, 0, 0, dz⟩ : Claim)⟩ : Entry))) (nid := 6) (H' := [rwR Zj l, bxB 110 (Z1 x), bxB 1 ([Iv 0]), rfB (slv 0 0 n c), Y1 x, bxB 110 (Z1 (l.getD ((Zda (usP l x.entry.client) n).getD k 0) default)), bxB 109 (Zdd (⟨0, 0, 0, ⟨#[]⟩, (⟨(⟨0, 0, 0, dz, 0⟩ : Head), 0, dz⟩ : Signed), (⟨0, 0, 0, 0, dz⟩ : Claim)⟩ : Entry)), hole]) (Z5 (p := pt 6 0) (v := Zdg ((l.getD ((Zda (usP l x.entry.client) n).getD k 0) default).entry)) (b := 6) (blk := bxB 109 (Zdd ((l.getD ((Zda (usP l x.entry.client) n).getD k 0) default).entry))) (H' := [rwR Zj l, bxB 110 (Z1 x), bxB 1 ([Iv 0]), rfB (slv 0 0 n c), Y1 x, bxB 110 (Z1 (l.getD ((Zda (usP l x.entry.client) n).getD k 0) default)), bxB 109 (Zdd ((l.getD ((Zda (usP l x.entry.client) n).getD k 0) default).entry)), hole]) (Zd (Zad (Zmp (Zeu ?_)))))
    refine Zdw (by kernel_rfl) ?_
    refine Zf (b := 6) (o := 0) (n := 2) (o' := 2) (Zl (p := pt 6 2) (v := Iv (((l.getD ((Zda (usP l x.entry.client) n).getD k 0) default).entry).seq)) (Zf (b := 1) (o := 0) (n := 1) (o' := 1) (Zf (b := 1) (o := 1) (n := 2) (o' := 3) (Zl (p := pt 1 3) (v := Iv x.entry.seq) ?_))))
    by_cases h7 : x.entry.seq ≤ (((l.getD ((Zda (usP l x.entry.client) n).getD k 0) default).entry).seq)
    refine Zn (vx := Iv (((l.getD ((Zda (usP l x.entry.client) n).getD k 0) default).entry).seq)) (vy := Iv x.entry.seq) rfl rfl (.bool true) rfl rfl (Zic (by omega)) ?_
    refine Zd (Zad (Zgn rfl (Zeu ?_)))
    refine Zdw (by kernel_rfl) ?_
    refine Z5 (p := pt 2 0) (v := Iv 101) (b := 2) (blk := bxB 1 ([Iv 101])) (H' := [rwR Zj l, bxB 110 (Z1 x), bxB 1 ([Iv 101]), rfB (slv 0 0 n c), Y1 x, bxB 110 (Z1 (l.getD ((Zda (usP l x.entry.client) n).getD k 0) default)), bxB 109 (Zdd ((l.getD ((Zda (usP l x.entry.client) n).getD k 0) default).entry)), hole]) (Zd (Zad (Zgz (Zy ?_))))
    refine ⟨?_⟩
    show ∃ v e, EndOK _ _ _ _ _ _ _ v e
    rw [show Zd1 l n x = 101 from Zmd (by first | exact Za5 (by omega) | exact of_decide_eq_true (by assumption)) (of_decide_eq_true (by assumption)) (fun q => by have := q.1; have := q.2; omega) (by omega) (by omega) (Zt8 hn hk (by omega))]
    exact Zar [0] (v := Iv 101) rfl (by kernel_rfl) rfl rfl (by decide) (by simp [Zbr, rwR, Zj]) rfl
    refine Zn (vx := Iv (((l.getD ((Zda (usP l x.entry.client) n).getD k 0) default).entry).seq)) (vy := Iv x.entry.seq) rfl rfl (.bool false) rfl rfl (Zho (by omega)) ?_
    refine Zd (Zad (Zfo rfl (Zl6 (Z7 ?_))))
    exact ⟨⟨(by show ¬ _ ≤ _; omega), _, Zau (l := []) (n := 6) rfl trivial (by kernel_rfl) (by kernel_rfl)⟩⟩
  intro hall
  show CW none _ _ _ _ _ _ _
  refine Zeu ?_
  refine Zdw (by kernel_rfl) ?_
  refine Z5 (p := pt 2 0) (v := Iv 0) (b := 2) (blk := bxB 1 ([Iv 0])) (H' := [rwR Zj l, bxB 110 (Z1 x), bxB 1 ([Iv 0]), rfB (slv 0 0 n c), Y1 x]) (Zd (Zad (Zgz (Zb5 (Zq ?_)))))
  rw [show Zd1 l n x = 0 from (by first | exact Zlp (by first | exact Za5 (by omega) | exact of_decide_eq_true (by assumption)) (of_decide_eq_true (by assumption)) (fun q => by have := q.1; have := q.2; omega) (by omega) (by omega) | exact Zha (by first | exact Za5 (by omega) | exact of_decide_eq_true (by assumption)) (of_decide_eq_true (by assumption)) (fun q => by have := q.1; have := q.2; omega) (by omega) (by omega) (Zkp hn hall))]
  exact Zar [0] (v := Iv 0) rfl (by kernel_rfl) rfl rfl (by decide) (by simp [Zbr, rwR, Zj]) rfl
  refine Zn (vx := Iv (n : Nat)) (vy := Iv 0) rfl rfl (.bool false) rfl rfl (Zfd (by omega)) ?_
  refine Zb (.bool false) (Za (Za (Za (Za (Za (Za (Za (Za (Za (Za (Zg (.bool false) (Zc (.bool false) ?_))))))))))))
  refine Zbv (Za4 [[], [0], [0, 1], [0, 1, 2], [0, 1, 2, 3], [0, 1, 2, 3, 4], [0, 1, 2, 3], [0, 1, 2, 3], [0, 1, 2, 3, 7], [0, 1, 2, 3, 7, 8], [0, 1, 2, 3, 6, 7, 8, 9], [0, 1, 2, 3, 6, 7, 8, 9, 10], [0, 1, 2, 3, 6, 7, 8, 9, 10, 11], [0, 1, 2, 3, 4, 5, 6, 7, 8, 9, 10, 11, 12], [0, 1, 2, 3, 4, 5, 6, 7, 8, 9, 10, 11, 12, 13], [0, 1, 2, 3, 4, 5, 6, 7, 8, 9, 10, 11, 12, 13, 14]] (by kernel_rfl) (by kernel_rfl)) ?_
  refine Zad (Zfo rfl (Zeu ?_))
  refine Zdw (by kernel_rfl) ?_
  refine Zb (slv 0 0 n c) (Zbg (p := slv 0 0 n c) (v := Iv (n : Nat)) ?_)
  refine Zn (vx := Iv (n : Nat)) (vy := Iv 2000) rfl rfl (.bool false) rfl rfl (Zho (by omega)) ?_
  refine Zc (.bool false) (Zd (Zad (Zfo rfl (Zeu ?_))))
  refine Zdw (by kernel_rfl) ?_
  refine Zf (b := 1) (o := 0) (n := 1) (o' := 1) (Zf (b := 1) (o := 1) (n := 0) (o' := 1) (Zl (p := pt 1 1) (v := Iv x.entry.kind) ?_))
  by_cases h8 : x.entry.kind ≠ 1
  refine Zn (vx := Iv x.entry.kind) (vy := Iv 1) rfl rfl (.bool true) rfl rfl (Zd5 (by omega)) ?_
  refine Zc (.bool true) (Zd (Zad (Zgn rfl (Zeu ?_))))
  refine Zdw (by kernel_rfl) ?_
  refine Z5 (p := pt 2 0) (v := Iv 0) (b := 2) (blk := bxB 1 ([Iv 0])) (H' := [rwR Zj l, bxB 110 (Z1 x), bxB 1 ([Iv 0]), hole, hole]) (Zd (Zad (Zgz (Zy (Zb5 (Zq ?_))))))
  rw [show Zd1 l n x = 0 from (by first | exact Zlp (by first | exact Za5 (by omega) | exact of_decide_eq_true (by assumption)) (of_decide_eq_true (by assumption)) (fun q => by have := q.1; have := q.2; omega) (by omega) (by omega) | exact Zha (by first | exact Za5 (by omega) | exact of_decide_eq_true (by assumption)) (of_decide_eq_true (by assumption)) (fun q => by have := q.1; have := q.2; omega) (by omega) (by omega) (Zkp hn hall))]
  exact Zar [0] (v := Iv 0) rfl (by kernel_rfl) rfl rfl (by decide) (by simp [Zbr, rwR, Zj]) rfl
  refine Zn (vx := Iv x.entry.kind) (vy := Iv 1) rfl rfl (.bool false) rfl rfl (Zd4 (by omega)) ?_
  refine Zc (.bool false) (Zd (Zad (Zfo rfl (Zl6 (Z7 (Zad (Zk5 (Zk5 (Zpi ?_)))))))))
  refine Zdw (by kernel_rfl) ?_
  refine Zb (slv 0 0 n c) (Zf (b := 1) (o := 0) (n := 1) (o' := 1) (Zf (b := 1) (o := 1) (n := 1) (o' := 2) (Zl (p := pt 1 2) (v := Iv x.entry.client) ?_)))
  refine Zab (e := [some (0, 0)]) (nid := 3) (Zr0 (G := G) l n c hn (by omega) (by omega) x.entry.client) (vals := [slv 0 0 n c, Iv x.entry.client]) (v := .func (.func 71) #[] #[pt 3 0, pt 4 0]) (H' := [rwR Zj l, bxB 110 (Z1 x), bxB 1 ([Iv 0]), rfB (slv 0 0 n c), Y1 x]) rfl rfl rfl rfl rfl rfl rfl ⟨⟨⟨rfl, rfl, rfl, by first | omega | exact Nat.le_refl _, by first | omega | exact Nat.le_refl _⟩, rfl, trivial⟩, ⟨(Zaf rfl), trivial⟩, rfl, rfl, rfl⟩ (by kernel_rfl) (by kernel_rfl) ?_
  refine Zd (Zad ?_)
  have hiter := Zuh (G := G) l n c hn hc hb x (fun k => ¬ x.entry.seq ≤ (l.getD ((Zda (usP l x.entry.client) n).getD k 0) default).entry.seq)
  refine Zqf (lbs := #[pt 3 0, pt 4 0]) (iter := hiter) rfl rfl rfl (by intro _ _; rfl) (by kernel_rfl) ?_ ?_
  · intro lp k hk hks
    have hku := Zmi hk
    refine Zpj 2 (H' := [rwR Zj l, bxB 110 (Z1 x), bxB 1 ([Iv 0]), rfB (slv 0 0 n c), Y1 x, bxB 110 (Z1 (l.getD ((Zda (usP l x.entry.client) n).getD k 0) default)), hole, hole]) rfl ?_
    refine Zdw (by kernel_rfl) ?_
    refine Zbf (b := bxB 109 (Zdd (⟨0, 0, 0, ⟨#[]⟩, (⟨(⟨0, 0, 0, dz, 0⟩ : Head), 0, dz⟩ : Signed), (⟨0, 0, 0, 0, dz⟩ : Claim)⟩ : Entry))) (nid := 6) (H' := [rwR Zj l, bxB 110 (Z1 x), bxB 1 ([Iv 0]), rfB (slv 0 0 n c), Y1 x, bxB 110 (Z1 (l.getD ((Zda (usP l x.entry.client) n).getD k 0) default)), bxB 109 (Zdd (⟨0, 0, 0, ⟨#[]⟩, (⟨(⟨0, 0, 0, dz, 0⟩ : Head), 0, dz⟩ : Signed), (⟨0, 0, 0, 0, dz⟩ : Claim)⟩ : Entry)), hole]) (Z5 (p := pt 6 0) (v := Zdg ((l.getD ((Zda (usP l x.entry.client) n).getD k 0) default).entry)) (b := 6) (blk := bxB 109 (Zdd ((l.getD ((Zda (usP l x.entry.client) n).getD k 0) default).entry))) (H' := [rwR Zj l, bxB 110 (Z1 x), bxB 1 ([Iv 0]), rfB (slv 0 0 n c), Y1 x, bxB 110 (Z1 (l.getD ((Zda (usP l x.entry.client) n).getD k 0) default)), bxB 109 (Zdd ((l.getD ((Zda (usP l x.entry.client) n).getD k 0) default).entry)), hole]) (Zd (Zad (Zmp (Zeu ?_)))))
    refine Zdw (by kernel_rfl) ?_
    refine Zf (b := 6) (o := 0) (n := 2) (o' := 2) (Zl (p := pt 6 2) (v := Iv (((l.getD ((Zda (usP l x.entry.client) n).getD k 0) default).entry).seq)) (Zf (b := 1) (o := 0) (n := 1) (o' := 1) (Zf (b := 1) (o := 1) (n := 2) (o' := 3) (Zl (p := pt 1 3) (v := Iv x.entry.seq) ?_))))
    by_cases h9 : x.entry.seq ≤ (((l.getD ((Zda (usP l x.entry.client) n).getD k 0) default).entry).seq)
    refine Zn (vx := Iv (((l.getD ((Zda (usP l x.entry.client) n).getD k 0) default).entry).seq)) (vy := Iv x.entry.seq) rfl rfl (.bool true) rfl rfl (Zic (by omega)) ?_
    refine Zd (Zad (Zgn rfl (Zeu ?_)))
    refine Zdw (by kernel_rfl) ?_
    refine Z5 (p := pt 2 0) (v := Iv 101) (b := 2) (blk := bxB 1 ([Iv 101])) (H' := [rwR Zj l, bxB 110 (Z1 x), bxB 1 ([Iv 101]), rfB (slv 0 0 n c), Y1 x, bxB 110 (Z1 (l.getD ((Zda (usP l x.entry.client) n).getD k 0) default)), bxB 109 (Zdd ((l.getD ((Zda (usP l x.entry.client) n).getD k 0) default).entry)), hole]) (Zd (Zad (Zgz (Zy ?_))))
    refine ⟨?_⟩
    show ∃ v e, EndOK _ _ _ _ _ _ _ v e
    rw [show Zd1 l n x = 101 from Zmd (by first | exact Za5 (by omega) | exact of_decide_eq_true (by assumption)) (of_decide_eq_true (by assumption)) (fun q => by have := q.1; have := q.2; omega) (by omega) (by omega) (Zt8 hn hk (by omega))]
    exact Zar [0] (v := Iv 101) rfl (by kernel_rfl) rfl rfl (by decide) (by simp [Zbr, rwR, Zj]) rfl
    refine Zn (vx := Iv (((l.getD ((Zda (usP l x.entry.client) n).getD k 0) default).entry).seq)) (vy := Iv x.entry.seq) rfl rfl (.bool false) rfl rfl (Zho (by omega)) ?_
    refine Zd (Zad (Zfo rfl (Zl6 (Z7 ?_))))
    exact ⟨⟨(by show ¬ _ ≤ _; omega), _, Zau (l := []) (n := 6) rfl trivial (by kernel_rfl) (by kernel_rfl)⟩⟩
  intro hall
  show CW none _ _ _ _ _ _ _
  refine Zeu ?_
  refine Zdw (by kernel_rfl) ?_
  refine Z5 (p := pt 2 0) (v := Iv 0) (b := 2) (blk := bxB 1 ([Iv 0])) (H' := [rwR Zj l, bxB 110 (Z1 x), bxB 1 ([Iv 0]), rfB (slv 0 0 n c), Y1 x]) (Zd (Zad (Zgz (Zb5 (Zq ?_)))))
  rw [show Zd1 l n x = 0 from (by first | exact Zlp (by first | exact Za5 (by omega) | exact of_decide_eq_true (by assumption)) (of_decide_eq_true (by assumption)) (fun q => by have := q.1; have := q.2; omega) (by omega) (by omega) | exact Zha (by first | exact Za5 (by omega) | exact of_decide_eq_true (by assumption)) (of_decide_eq_true (by assumption)) (fun q => by have := q.1; have := q.2; omega) (by omega) (by omega) (Zkp hn hall))]
  exact Zar [0] (v := Iv 0) rfl (by kernel_rfl) rfl rfl (by decide) (by simp [Zbr, rwR, Zj]) rfl
  refine Zcx (vx := .bool (decide (Zbb x))) rfl rfl (.bool true) rfl (Eq.trans Za3 (congrArg (fun b => some (Value.bool !b)) h2)) ?_
  refine Zg (.bool true) (Zc (.bool true) (Zd (Zad (Zgn rfl (Zeu ?_)))))
  refine Zdw (by kernel_rfl) ?_
  refine Z5 (p := pt 2 0) (v := Iv 100) (b := 2) (blk := bxB 1 ([Iv 100])) (H' := [rwR Zj l, bxB 110 (Z1 x), bxB 1 ([Iv 100]), hole, hole]) (Zd (Zad (Zgz (Zy (Zb5 (Zq ?_))))))
  rw [show Zd1 l n x = 100 from Zmc (by first | exact .inl (Z6 (by omega)) | exact .inl (of_decide_eq_false (by assumption)) | exact .inr (of_decide_eq_false (by assumption)))]
  exact Zar [0] (v := Iv 100) rfl (by kernel_rfl) rfl rfl (by decide) (by simp [Zbr, rwR, Zj]) rfl
theorem Zsu (l : List Item) (n c : Nat) (hn : l.length = n) (hc : n ≤ c) (hb : n ≤ 1048576) (x : Item) : Zat Try.prog G 41 [slv 0 0 n c, Zal x] [rwR Zj l] (Iv (Zd1 l n x)) [rwR Zj l] := by
  refine Zcg (fn := Try.f41) (nt := 49) rfl rfl rfl rfl ?_
  refine Za8 1 (H' := [rwR Zj l, hole]) rfl ?_
  refine Zi (Zm (Zbn (v := Zal x) (b := bxB 110 (Z1 x)) (nid := 1) (H' := [rwR Zj l, bxB 110 (Z1 x)]) (Zc (Iv 0) (Zd (Ze (Zi (Zav (Zi (Zm (Zb (slv 0 0 n c) ?_))))))))))
  refine Zab (e := [some (0, 0)]) (nid := 0) (Zh6 (G := G) l n c hn (by omega) (by omega)) (vals := [slv 0 0 n c]) (v := .bool (decide (Zb2 l))) (H' := [rwR Zj l, bxB 110 (Z1 x)]) rfl rfl rfl rfl rfl rfl rfl ⟨⟨⟨rfl, rfl, rfl, by first | omega | exact Nat.le_refl _, by first | omega | exact Nat.le_refl _⟩, trivial⟩, ⟨(Zaf rfl), trivial⟩, rfl, rfl, rfl⟩ rfl (by kernel_rfl) ?_
  rcases Bool.eq_false_or_eq_true (decide (Zb2 l)) with h1 | h1
  refine Zcx (vx := .bool (decide (Zb2 l))) rfl rfl (.bool false) rfl (Eq.trans Za3 (congrArg (fun b => some (Value.bool !b)) h1)) ?_
  refine Zb (.bool false) (Zl (p := pt 1 0) (v := Zal x) ?_)
  refine Zw (Zfx (G := G) x) (vals := [Zal x]) (res' := .bool (decide (Zbb x))) rfl rfl rfl rfl rfl rfl ?_
  rcases Bool.eq_false_or_eq_true (decide (Zbb x)) with h2 | h2
  refine Zcx (vx := .bool (decide (Zbb x))) rfl rfl (.bool false) rfl (Eq.trans Za3 (congrArg (fun b => some (Value.bool !b)) h2)) ?_
  refine Zg (.bool false) (Zc (.bool false) (Zd (Ze (Zz rfl (Zi ?_)))))
  refine Zek (by kernel_rfl) ?_
  refine Zb (slv 0 0 n c) (Zbg (p := slv 0 0 n c) (v := Iv (n : Nat)) ?_)
  by_cases h3 : 0 < (n : Nat)
  refine Zn (vx := Iv (n : Nat)) (vy := Iv 0) rfl rfl (.bool true) rfl rfl (Zfe (by omega)) ?_
  refine Zb (.bool true) (Zf (b := 1) (o := 0) (n := 0) (o' := 0) (Zl (p := pt 1 0) (v := Iv x.epoch) (Zb (slv 0 0 n c) (Zb (slv 0 0 n c) (Zbg (p := slv 0 0 n c) (v := Iv (n : Nat)) ?_)))))
  refine Zn (vx := Iv (n : Nat)) (vy := Iv 1) rfl rfl (Iv ((n : Nat) - 1)) rfl rfl (Zg4 (by omega) (by omega) (by omega)) ?_
  refine Zb0 (b := 0) (o := 0) (j := (n - 1) * 110) (m := n) (c := c) (sz := 110) (i := (n : Nat) - 1) (k := .i64) rfl rfl rfl rfl rfl (by omega) (by omega) (by omega) ?_
  refine Zas (b := 0) (o := (n - 1) * 110) (n := 0) (o' := (n - 1) * 110) rfl rfl rfl rfl (by omega) ?_
  refine Zba (p := pt 0 ((n - 1) * 110)) (v := Iv ((l.getD (n - 1) default).epoch)) rfl rfl rfl (Zef Zj (l := l) (i := n - 1) (k := 0) (m := 110) rfl rfl rfl rfl (by have := hn; omega) (by omega) (by kernel_rfl) rfl) ?_
  by_cases h4 : x.epoch < ((l.getD (n - 1) default).epoch)
  refine Zn (vx := Iv x.epoch) (vy := Iv ((l.getD (n - 1) default).epoch)) rfl rfl (.bool true) rfl rfl (Zdq (by omega)) ?_
  refine Zg (.bool true) (Zc (.bool true) ?_)
  refine Zbv (Za4 [[], [0], [0, 1], [0, 1, 2], [0, 1, 2, 3], [0, 1, 2, 3, 4], [0, 1, 2, 3], [0, 1, 2, 3], [0, 1, 2, 3, 7], [0, 1, 2, 3, 7, 8], [0, 1, 2, 3, 6, 7, 8, 9], [0, 1, 2, 3, 6, 7, 8, 9, 10], [0, 1, 2, 3, 6, 7, 8, 9, 10, 11], [0, 1, 2, 3, 4, 5, 6, 7, 8, 9, 10, 11, 12], [0, 1, 2, 3, 4, 5, 6, 7, 8, 9, 10, 11, 12, 13], [0, 1, 2, 3, 4, 5, 6, 7, 8, 9, 10, 11, 12, 13, 14]] (by kernel_rfl) (by kernel_rfl)) ?_
  refine Ze (Z4 rfl (Zi (Zm (Zc (Iv 102) (Zd (Ze (Zs (Zy (Zv (Zq ?_))))))))))
  rw [show Zd1 l n x = 102 from Zt4 (by first | exact Za5 (by omega) | exact of_decide_eq_true (by assumption)) (of_decide_eq_true (by assumption)) (by omega) (by omega)]
  exact Zk (v := Iv 102) rfl rfl rfl (by kernel_rfl) rfl
  refine Zn (vx := Iv x.epoch) (vy := Iv ((l.getD (n - 1) default).epoch)) rfl rfl (.bool false) rfl rfl (Zdp (by omega)) ?_
  refine Zg (.bool false) (Zc (.bool false) ?_)
  refine Zbv (Za4 [[], [0], [0, 1], [0, 1, 2], [0, 1, 2, 3], [0, 1, 2, 3, 4], [0, 1, 2, 3], [0, 1, 2, 3], [0, 1, 2, 3, 7], [0, 1, 2, 3, 7, 8], [0, 1, 2, 3, 6, 7, 8, 9], [0, 1, 2, 3, 6, 7, 8, 9, 10], [0, 1, 2, 3, 6, 7, 8, 9, 10, 11], [0, 1, 2, 3, 4, 5, 6, 7, 8, 9, 10, 11, 12], [0, 1, 2, 3, 4, 5, 6, 7, 8, 9, 10, 11, 12, 13], [0, 1, 2, 3, 4, 5, 6, 7, 8, 9, 10, 11, 12, 13, 14]] (by kernel_rfl) (by kernel_rfl)) ?_
  refine Ze (Zz rfl (Zi (Zm (Zb (slv 0 0 n c) (Zbg (p := slv 0 0 n c) (v := Iv (n : Nat)) ?_)))))
  by_cases h5 : (n : Nat) = 2000
  refine Zn (vx := Iv (n : Nat)) (vy := Iv 2000) rfl rfl (.bool true) rfl rfl (Zaj (by omega)) ?_
  refine Zc (.bool true) (Zd (Ze (Z4 rfl (Zi (Zm (Zc (Iv 2) (Zd (Ze (Zs (Zy (Zv (Zq ?_))))))))))))
  rw [show Zd1 l n x = 2 from Zy4 (by first | exact Za5 (by omega) | exact of_decide_eq_true (by assumption)) (of_decide_eq_true (by assumption)) (fun q => by have := q.1; have := q.2; omega) (by omega)]
  exact Zk (v := Iv 2) rfl rfl rfl (by kernel_rfl) rfl
  refine Zn (vx := Iv (n : Nat)) (vy := Iv 2000) rfl rfl (.bool false) rfl rfl (Zaq (by omega)) ?_
  refine Zc (.bool false) (Zd (Ze (Zz rfl (Zi (Zm (Zf (b := 1) (o := 0) (n := 1) (o' := 1) (Zf (b := 1) (o := 1) (n := 0) (o' := 1) (Zl (p := pt 1 1) (v := Iv x.entry.kind) ?_))))))))
  by_cases h6 : x.entry.kind = 1
  refine Zn (vx := Iv x.entry.kind) (vy := Iv 1) rfl rfl (.bool true) rfl rfl (Zaj (by omega)) ?_
  refine Zb (.bool true) (Zb (slv 0 0 n c) (Zf (b := 1) (o := 0) (n := 1) (o' := 1) (Zf (b := 1) (o := 1) (n := 1) (o' := 2) (Zl (p := pt 1 2) (v := Iv x.entry.client) (Zf (b := 1) (o := 0) (n := 1) (o' := 1) (Zf (b := 1) (o := 1) (n := 2) (o' := 3) (Zl (p := pt 1 3) (v := Iv x.entry.seq) ?_)))))))
  refine Zab (e := [some (0, 0)]) (nid := 0) (Zox (G := G) l n c hn (by omega) (by omega) x.entry.client x.entry.seq) (vals := [slv 0 0 n c, Iv x.entry.client, Iv x.entry.seq]) (v := .bool (Zig l x.entry.client x.entry.seq)) (H' := [rwR Zj l, bxB 110 (Z1 x)]) rfl rfl rfl rfl rfl rfl rfl ⟨⟨⟨rfl, rfl, rfl, by first | omega | exact Nat.le_refl _, by first | omega | exact Nat.le_refl _⟩, rfl, rfl, trivial⟩, ⟨(Zaf rfl), trivial⟩, rfl, rfl, rfl⟩ rfl (by kernel_rfl) ?_
  refine Zg (.bool (Zig l x.entry.client x.entry.seq)) (Zc (.bool (Zig l x.entry.client x.entry.seq)) (Zd (Ze ?_)))
  rcases Bool.eq_false_or_eq_true (Zig l x.entry.client x.entry.seq) with h7 | h7
  refine Z4 (congrArg Value.bool h7) (Zi (Zm (Zc (Iv 101) (Zd (Ze (Zs (Zy (Zv (Zq ?_)))))))))
  have hq3 : n ≤ 2000 := by have := (of_decide_eq_true (p := Zb2 l) (by assumption)).1; omega
  rw [show Zd1 l n x = 101 from Zmd (by first | exact Za5 (by omega) | exact of_decide_eq_true (by assumption)) (of_decide_eq_true (by assumption)) (fun q => by have := q.1; have := q.2; omega) (by omega) (by omega) (by assumption)]
  exact Zk (v := Iv 101) rfl rfl rfl (by kernel_rfl) rfl
  refine Zz (congrArg Value.bool h7) (Z9 (Z7 (Ze (Zi (Zm (Zc (Iv 0) (Zd (Ze (Zs (Zq ?_))))))))))
  have hq3 : n ≤ 2000 := by have := (of_decide_eq_true (p := Zb2 l) (by assumption)).1; omega
  rw [show Zd1 l n x = 0 from (by first | exact Zlp (by first | exact Za5 (by omega) | exact of_decide_eq_true (by assumption)) (of_decide_eq_true (by assumption)) (fun q => by have := q.1; have := q.2; omega) (by omega) (by omega) | exact Zha (by first | exact Za5 (by omega) | exact of_decide_eq_true (by assumption)) (of_decide_eq_true (by assumption)) (fun q => by have := q.1; have := q.2; omega) (by omega) (by omega) (by assumption))]
  exact Zk (v := Iv 0) rfl rfl rfl (by kernel_rfl) rfl
  refine Zn (vx := Iv x.entry.kind) (vy := Iv 1) rfl rfl (.bool false) rfl rfl (Zaq (by omega)) ?_
  refine Zb (.bool false) (Za (Za (Za (Za (Za (Za (Za (Za (Zg (.bool false) (Zc (.bool false) (Zd (Ze (Zz rfl (Z9 (Z7 (Ze (Zi (Zm (Zc (Iv 0) (Zd (Ze (Zs (Zq ?_)))))))))))))))))))))))
  have hq3 : n ≤ 2000 := by have := (of_decide_eq_true (p := Zb2 l) (by assumption)).1; omega
  rw [show Zd1 l n x = 0 from (by first | exact Zlp (by first | exact Za5 (by omega) | exact of_decide_eq_true (by assumption)) (of_decide_eq_true (by assumption)) (fun q => by have := q.1; have := q.2; omega) (by omega) (by omega) | exact Zha (by first | exact Za5 (by omega) | exact of_decide_eq_true (by assumption)) (of_decide_eq_true (by assumption)) (fun q => by have := q.1; have := q.2; omega) (by omega) (by omega) (by assumption))]
  exact Zk (v := Iv 0) rfl rfl rfl (by kernel_rfl) rfl
  refine Zn (vx := Iv (n : Nat)) (vy := Iv 0) rfl rfl (.bool false) rfl rfl (Zfd (by omega)) ?_
  refine Zb (.bool false) (Za (Za (Za (Za (Za (Za (Za (Za (Za (Za (Zg (.bool false) (Zc (.bool false) ?_))))))))))))
  refine Zbv (Za4 [[], [0], [0, 1], [0, 1, 2], [0, 1, 2, 3], [0, 1, 2, 3, 4], [0, 1, 2, 3], [0, 1, 2, 3], [0, 1, 2, 3, 7], [0, 1, 2, 3, 7, 8], [0, 1, 2, 3, 6, 7, 8, 9], [0, 1, 2, 3, 6, 7, 8, 9, 10], [0, 1, 2, 3, 6, 7, 8, 9, 10, 11], [0, 1, 2, 3, 4, 5, 6, 7, 8, 9, 10, 11, 12], [0, 1, 2, 3, 4, 5, 6, 7, 8, 9, 10, 11, 12, 13], [0, 1, 2, 3, 4, 5, 6, 7, 8, 9, 10, 11, 12, 13, 14]] (by kernel_rfl) (by kernel_rfl)) ?_
  refine Ze (Zz rfl (Zi (Zm (Zb (slv 0 0 n c) (Zbg (p := slv 0 0 n c) (v := Iv (n : Nat)) ?_)))))
  refine Zn (vx := Iv (n : Nat)) (vy := Iv 2000) rfl rfl (.bool false) rfl rfl (Zaq (by omega)) ?_
  refine Zc (.bool false) (Zd (Ze (Zz rfl (Zi (Zm (Zf (b := 1) (o := 0) (n := 1) (o' := 1) (Zf (b := 1) (o := 1) (n := 0) (o' := 1) (Zl (p := pt 1 1) (v := Iv x.entry.kind) ?_))))))))
  by_cases h8 : x.entry.kind = 1
  refine Zn (vx := Iv x.entry.kind) (vy := Iv 1) rfl rfl (.bool true) rfl rfl (Zaj (by omega)) ?_
  refine Zb (.bool true) (Zb (slv 0 0 n c) (Zf (b := 1) (o := 0) (n := 1) (o' := 1) (Zf (b := 1) (o := 1) (n := 1) (o' := 2) (Zl (p := pt 1 2) (v := Iv x.entry.client) (Zf (b := 1) (o := 0) (n := 1) (o' := 1) (Zf (b := 1) (o := 1) (n := 2) (o' := 3) (Zl (p := pt 1 3) (v := Iv x.entry.seq) ?_)))))))
  refine Zab (e := [some (0, 0)]) (nid := 0) (Zox (G := G) l n c hn (by omega) (by omega) x.entry.client x.entry.seq) (vals := [slv 0 0 n c, Iv x.entry.client, Iv x.entry.seq]) (v := .bool (Zig l x.entry.client x.entry.seq)) (H' := [rwR Zj l, bxB 110 (Z1 x)]) rfl rfl rfl rfl rfl rfl rfl ⟨⟨⟨rfl, rfl, rfl, by first | omega | exact Nat.le_refl _, by first | omega | exact Nat.le_refl _⟩, rfl, rfl, trivial⟩, ⟨(Zaf rfl), trivial⟩, rfl, rfl, rfl⟩ rfl (by kernel_rfl) ?_
  refine Zg (.bool (Zig l x.entry.client x.entry.seq)) (Zc (.bool (Zig l x.entry.client x.entry.seq)) (Zd (Ze ?_)))
  rcases Bool.eq_false_or_eq_true (Zig l x.entry.client x.entry.seq) with h9 | h9
  refine Z4 (congrArg Value.bool h9) (Zi (Zm (Zc (Iv 101) (Zd (Ze (Zs (Zy (Zv (Zq ?_)))))))))
  have hq3 : n ≤ 2000 := by have := (of_decide_eq_true (p := Zb2 l) (by assumption)).1; omega
  rw [show Zd1 l n x = 101 from Zmd (by first | exact Za5 (by omega) | exact of_decide_eq_true (by assumption)) (of_decide_eq_true (by assumption)) (fun q => by have := q.1; have := q.2; omega) (by omega) (by omega) (by assumption)]
  exact Zk (v := Iv 101) rfl rfl rfl (by kernel_rfl) rfl
  refine Zz (congrArg Value.bool h9) (Z9 (Z7 (Ze (Zi (Zm (Zc (Iv 0) (Zd (Ze (Zs (Zq ?_))))))))))
  have hq3 : n ≤ 2000 := by have := (of_decide_eq_true (p := Zb2 l) (by assumption)).1; omega
  rw [show Zd1 l n x = 0 from (by first | exact Zlp (by first | exact Za5 (by omega) | exact of_decide_eq_true (by assumption)) (of_decide_eq_true (by assumption)) (fun q => by have := q.1; have := q.2; omega) (by omega) (by omega) | exact Zha (by first | exact Za5 (by omega) | exact of_decide_eq_true (by assumption)) (of_decide_eq_true (by assumption)) (fun q => by have := q.1; have := q.2; omega) (by omega) (by omega) (by assumption))]
  exact Zk (v := Iv 0) rfl rfl rfl (by kernel_rfl) rfl
  refine Zn (vx := Iv x.entry.kind) (vy := Iv 1) rfl rfl (.bool false) rfl rfl (Zaq (by omega)) ?_
  refine Zb (.bool false) (Za (Za (Za (Za (Za (Za (Za (Za (Zg (.bool false) (Zc (.bool false) (Zd (Ze (Zz rfl (Z9 (Z7 (Ze (Zi (Zm (Zc (Iv 0) (Zd (Ze (Zs (Zq ?_)))))))))))))))))))))))
  have hq3 : n ≤ 2000 := by have := (of_decide_eq_true (p := Zb2 l) (by assumption)).1; omega
  rw [show Zd1 l n x = 0 from (by first | exact Zlp (by first | exact Za5 (by omega) | exact of_decide_eq_true (by assumption)) (of_decide_eq_true (by assumption)) (fun q => by have := q.1; have := q.2; omega) (by omega) (by omega) | exact Zha (by first | exact Za5 (by omega) | exact of_decide_eq_true (by assumption)) (of_decide_eq_true (by assumption)) (fun q => by have := q.1; have := q.2; omega) (by omega) (by omega) (by assumption))]
  exact Zk (v := Iv 0) rfl rfl rfl (by kernel_rfl) rfl
  refine Zcx (vx := .bool (decide (Zbb x))) rfl rfl (.bool true) rfl (Eq.trans Za3 (congrArg (fun b => some (Value.bool !b)) h2)) ?_
  refine Zg (.bool true) (Zc (.bool true) (Zd (Ze (Z4 rfl (Zi (Zm (Zc (Iv 100) (Zd (Ze (Zs (Zy (Zv (Zq ?_)))))))))))))
  rw [show Zd1 l n x = 100 from Zmc (by first | exact .inl (Z6 (by omega)) | exact .inl (of_decide_eq_false (by assumption)) | exact .inr (of_decide_eq_false (by assumption)))]
  exact Zk (v := Iv 100) rfl rfl rfl (by kernel_rfl) rfl
  refine Zcx (vx := .bool (decide (Zb2 l))) rfl rfl (.bool true) rfl (Eq.trans Za3 (congrArg (fun b => some (Value.bool !b)) h1)) ?_
  refine Zb (.bool true) (Za (Za (Za (Zg (.bool true) (Zc (.bool true) (Zd (Ze (Z4 rfl (Zi (Zm (Zc (Iv 100) (Zd (Ze (Zs (Zy (Zv (Zq ?_)))))))))))))))))
  rw [show Zd1 l n x = 100 from Zmc (by first | exact .inl (Z6 (by omega)) | exact .inl (of_decide_eq_false (by assumption)) | exact .inr (of_decide_eq_false (by assumption)))]
  exact Zk (v := Iv 100) rfl rfl rfl (by kernel_rfl) rfl
end Go.Flat
