/- Walks. -/
import Derived.Test.YtoafdomlefoenaaE4
import Derived.Test.YtoafdomlefoenaaFlatJ
set_option linter.unusedVariables false
set_option linter.unusedSimpArgs false
set_option maxRecDepth 20000
namespace Go.Flat
open Go.Proofs
variable {G : Glob}
def Zr6 : Cod Int := ⟨fun z => [.int .i64 z], 1, fun _ => rfl, by decide⟩
def Ze9 (x y : Int) : Int := if x < y then -1 else if y < x then 1 else 0
def orL (l : List Int) : Int := (l.find? (fun x => x != 0)).getD 0
theorem Zyl {l : List Int} : ∀ {i : Nat}, (∀ j, j < i → l.getD j default = 0) → i < l.length → l.getD i default ≠ 0 → orL l = l.getD i default := by
 induction l with
 | nil => intro i _ h; simp at h
 | cons x l ih =>
  intro i h1 h2 h3
  cases i with
  | zero =>
   have h3' : x ≠ 0 := h3
   show orL (x :: l) = x
   unfold orL
   rw [List.find?_cons_of_pos (by simpa using h3')]; rfl
  | succ i =>
   have hx : x = 0 := h1 0 (by omega)
   subst hx
   show orL (0 :: l) = l.getD i default
   rw [← ih (fun j hj => h1 (j + 1) (by omega)) (by simpa using h2) h3]
   unfold orL
   rw [List.find?_cons_of_neg (by simp)]
theorem Zwy {l : List Int} (h : ∀ j, j < l.length → l.getD j default = 0) : orL l = 0 := by
 unfold orL
 rw [List.find?_eq_none.2 ?_]
 ·rfl
 ·intro x hx
  obtain ⟨i, hi, rfl⟩ := List.getElem_of_mem hx
  have := h i hi
  rw [List.getD_eq_getElem?_getD, List.getElem?_eq_getElem hi] at this
  simpa using this
def Zhr (a b : Claim) : Int := orL [Ze9 a.region b.region, Ze9 a.epoch b.epoch]
def Zbm (a b : Claim) : Prop := a.region < b.region ∨ (a.region = b.region ∧ a.epoch < b.epoch)
instance (a b : Claim) : Decidable (Zbm a b) := inferInstanceAs (Decidable (_ ∨ _))
theorem Zt9 (a b : Claim) : Zhr a b = if Ze9 a.region b.region ≠ 0 then Ze9 a.region b.region else Ze9 a.epoch b.epoch := by
 unfold Zhr orL
 by_cases h : Ze9 a.region b.region = 0
 ·rw [List.find?_cons_of_neg (by simp [h]), if_neg (by simp [h])]
  by_cases h2 : Ze9 a.epoch b.epoch = 0
  ·rw [List.find?_cons_of_neg (by simp [h2]), h2]; rfl
  ·rw [List.find?_cons_of_pos (by simpa using h2)]; rfl
 ·rw [List.find?_cons_of_pos (by simpa using h), if_pos h]; rfl
theorem Zhs {a b : Claim} : Zhr a b < 0 ↔ Zbm a b := by
 rw [Zt9]; unfold Ze9 Zbm
 constructor
 ·intro h; repeat (first | omega | split at h)
 ·intro h; repeat (first | omega | split)
theorem Zor {a b : Claim} : Zhr a b = 0 ↔ a.region = b.region ∧ a.epoch = b.epoch := by
 rw [Zt9]; unfold Ze9
 constructor
 ·intro h; repeat (first | omega | split at h)
 ·intro h; repeat (first | omega | split)
def okC (l : List Claim) (i : Nat) : Prop := Zaz (l.getD i default) ∧ (0 < i → Zbm (l.getD (i - 1) default) (l.getD i default))
def Zbw (l : List Claim) : Prop := ∀ i, i < l.length → okC l i
instance (l : List Claim) (i : Nat) : Decidable (okC l i) := inferInstanceAs (Decidable (_ ∧ _))
instance (l : List Claim) : Decidable (Zbw l) := inferInstanceAs (Decidable (∀ i, i < l.length → okC l i))
def Zec (l : List Claim) : Int := if Zbw l then 0 else 110
theorem Zf8 {l : List Claim} (h : Zec l = 0) : Zbw l := by
 unfold Zec at h
 split at h
 ·assumption
 ·omega
theorem Ze7 {l : List Claim} (h : ¬ Zec l = 0) : ¬ Zbw l := fun q => h (if_pos q)
def Zdr (l m : List Claim) : Bool := decide (l.length = m.length) && (List.range l.length).all fun i => Zu (l.getD i default) (m.getD i default)
theorem Zrp {l m : List Claim} (h : l.length = m.length) (hR : ∀ j, j < l.length → Zu (l.getD j default) (m.getD j default) = true) : Zdr l m = true := by
 unfold Zdr
 rw [decide_eq_true h, Bool.true_and, List.all_eq_true]
 intro j hj
 exact hR j (List.mem_range.1 hj)
theorem Zm9 {l m : List Claim} (h : l.length ≠ m.length) : Zdr l m = false := by
 unfold Zdr; rw [decide_eq_false h]; rfl
theorem Zrn {l m : List Claim} (i : Nat) (hi : i < l.length) (h : Zu (l.getD i default) (m.getD i default) = false) : Zdr l m = false := by
  unfold Zdr
  cases hq : (List.range l.length).all fun i => Zu (l.getD i default) (m.getD i default) with
  | false => simp
  | true => rw [List.all_eq_true] at hq; have := hq i (List.mem_range.2 hi); rw [h] at this; cases this
theorem Zro (l : List Claim) : Zdr l l = true := Zrp rfl (fun _ _ => Zag _)
theorem Zqw (x : Int) : Zat Try.prog G 68 [Iv x] [] (.bool false) [] := by
 refine Zcg (fn := Try.f68) (nt := 6) rfl rfl rfl rfl ?_
 refine Zi (Zm (Zc (.bool false) (Zd (Ze (Zi (Zm (Zb (Iv x) (Zb (Iv x) ?_))))))))
 refine Zn (vx := Iv x) (vy := Iv x) rfl rfl (.bool false) rfl rfl (Zd4 (by omega)) ?_
 refine Zc (.bool false) (Zd (Ze (Zs (Zq ?_))))
 exact Zk (v := .bool false) rfl rfl rfl (by kernel_rfl) rfl
theorem Zml (x y : Int) : Zat Try.prog G 61 [Iv x, Iv y] [] (Iv (Ze9 x y)) [] := by
 refine Zcg (fn := Try.f61) (nt := 20) rfl rfl rfl rfl ?_
 refine Zi (Zm (Zc (Iv 0) (Zd (Ze (Zi (Zm (Zb (Iv x) ?_)))))))
 refine Zw (Zqw (G := G) x) (vals := [Iv x]) (res' := .bool false) rfl rfl rfl rfl rfl rfl ?_
 refine Zc (.bool false) (Zd (Ze (Zi (Zm (Zb (Iv y) ?_)))))
 refine Zw (Zqw (G := G) y) (vals := [Iv y]) (res' := .bool false) rfl rfl rfl rfl rfl rfl ?_
 refine Zc (.bool false) (Zd (Ze (Zi (Zi (Zm (Zb (.bool false) (Zd (Ze (Zz rfl (Z9 (Ze (Zi (Zi (Zm (Zb (.bool false) (Zd (Ze (Zz rfl (Z9 (Ze (Zi (Zi (Zm (Zb (Iv x) (Zb (Iv y) ?_)))))))))))))))))))))))))
 by_cases h1 : x < y
 refine Zn (vx := Iv x) (vy := Iv y) rfl rfl (.bool true) rfl rfl (Zdq (by omega)) ?_
 refine Zd (Ze (Z4 rfl (Zi (Zm (Zc (Iv (-1)) (Zd (Ze (Zs (Zv (Zq ?_))))))))))
 rw [show Ze9 x y = -1 from by unfold Ze9; split <;> (try split) <;> omega]
 exact Zk (v := Iv (-1)) rfl rfl rfl (by kernel_rfl) rfl
 refine Zn (vx := Iv x) (vy := Iv y) rfl rfl (.bool false) rfl rfl (Zdp (by omega)) ?_
 refine Zd (Ze (Zz rfl (Z9 (Ze (Zi (Zi (Zm (Zb (Iv x) (Zb (Iv y) ?_)))))))))
 by_cases h2 : y < x
 refine Zn (vx := Iv x) (vy := Iv y) rfl rfl (.bool true) rfl rfl (Zfe (by omega)) ?_
 refine Zd (Ze (Z4 rfl (Zi (Zm (Zc (Iv 1) (Zd (Ze (Zs (Zv (Zq ?_))))))))))
 rw [show Ze9 x y = 1 from by unfold Ze9; split <;> (try split) <;> omega]
 exact Zk (v := Iv 1) rfl rfl rfl (by kernel_rfl) rfl
 refine Zn (vx := Iv x) (vy := Iv y) rfl rfl (.bool false) rfl rfl (Zfd (by omega)) ?_
 refine Zd (Ze (Zz rfl (Z9 (Ze (Zi (Zm (Zc (Iv 0) (Zd (Ze (Zs (Zq ?_)))))))))))
 rw [show Ze9 x y = 0 from by unfold Ze9; split <;> (try split) <;> omega]
 exact Zk (v := Iv 0) rfl rfl rfl (by kernel_rfl) rfl
theorem Z0b (l : List Int) (n c : Nat) (hn : l.length = n) (hc : n ≤ c) (hb : n ≤ 1048576) : Zat Try.prog G 60 [slv 0 0 n c] [rwR Zr6 l] (Iv (orL l)) [rwR Zr6 l] := by
  refine Zcg (fn := Try.f60) (nt := 18) rfl rfl rfl rfl ?_
  refine Zi (Zm (Zc (Iv 0) (Zd (Ze (Zi (Zm (Zc (Iv 0) (Zd (Ze (Zi (Zi (Zm (Zb (slv 0 0 n c) (Zbg (p := slv 0 0 n c) (v := Iv (n : Nat)) (Zb (Iv 0) (Zd (Ze (Zav ?_))))))))))))))))))
  refine Zdz (fun i : Nat => [slv 0 0 n c, dead, dead, Iv 0, dead, dead, slv 0 0 n c, Iv (n : Nat), Iv (i : Nat)]) (fun i : Nat => [rwR Zr6 l]) (fun i : Nat => (∀ j, j < i → l.getD j default = 0) ∧ i ≤ n) (fun i : Nat => n - i) 0 ⟨fun _ h => absurd h (by omega), by omega⟩ ?_ ?_
  · refine Zau (n := 1) rfl ?_ (by kernel_rfl) (by kernel_rfl)
    repeat (first | exact trivial | refine ⟨.inl rfl, ?_⟩ | refine ⟨.inr ⟨rfl, rfl⟩, ?_⟩ | refine ⟨.inr ⟨congrArg (Value.int .i64) (by first | omega | (dsimp only; omega)), rfl⟩, ?_⟩)
  rintro i ⟨hR, hi⟩
  refine Zi (Zm ?_)
  by_cases h1 : (i : Nat) < (n : Nat)
  refine Zn (vx := Iv (i : Nat)) (vy := Iv (n : Nat)) rfl rfl (.bool true) rfl rfl (Zdq (by omega)) ?_
  refine Zd (Ze (Zi (Z4 rfl (Z9 (Ze (Zi (Zav (Zi (Zm ?_)))))))))
  refine Zb0 (b := 0) (o := 0) (j := i) (m := n) (c := c) (sz := 1) (i := (i : Nat)) (k := .i64) rfl rfl rfl rfl rfl (by omega) (by omega) (by omega) ?_
  refine Zba (p := pt 0 i) (v := Iv (l.getD i default)) rfl rfl rfl (Zwt (m := 1) Zr6 (l := l) (i := i) rfl rfl rfl rfl (by have := hn; omega) (by omega) rfl rfl) ?_
  refine Zc (Iv (l.getD i default)) (Zd (Ze (Zi (Zm (Zb (Iv (l.getD i default)) (Zb (Iv 0) ?_))))))
  by_cases h2 : (l.getD i default) ≠ 0
  refine Zn (vx := Iv (l.getD i default)) (vy := Iv 0) rfl rfl (.bool true) rfl rfl (Zd5 (by omega)) ?_
  refine Zd (Ze (Z4 rfl (Zi (Zm (Zb (Iv (l.getD i default)) (Zc (Iv (l.getD i default)) (Zd (Ze (Zs (Zy (Zv (Zb5 (Zy (Zv (Zq ?_)))))))))))))))
  rw [show orL l = l.getD i default from Zyl hR (by omega) (by omega)]
  exact Zk (v := Iv (l.getD i default)) rfl rfl rfl (by kernel_rfl) rfl
  refine Zn (vx := Iv (l.getD i default)) (vy := Iv 0) rfl rfl (.bool false) rfl rfl (Zd4 (by omega)) ?_
  refine Zd (Ze (Zz rfl (Z9 (Z7 (Ze (Zm ?_))))))
  refine Zn (vx := Iv (i : Nat)) (vy := Iv 1) rfl rfl (Iv ((i : Nat) + 1)) rfl rfl (Zbi (by omega) (by omega) (by omega)) ?_
  refine Zb (Iv ((i : Nat) + 1)) (Zd ?_)
  refine Zad ⟨(i + 1), ⟨fun j hj => by rcases Nat.lt_or_ge j i with h | h; exact hR j h; obtain rfl : j = i := (by omega); omega, by omega⟩, by show n - (i + 1) < n - i; omega, ?_⟩
  refine Zau (n := 1) rfl ?_ (by kernel_rfl) (by kernel_rfl)
  repeat (first | exact trivial | refine ⟨.inl rfl, ?_⟩ | refine ⟨.inr ⟨rfl, rfl⟩, ?_⟩ | refine ⟨.inr ⟨congrArg (Value.int .i64) (by first | omega | (dsimp only; omega)), rfl⟩, ?_⟩)
  refine Zn (vx := Iv (i : Nat)) (vy := Iv (n : Nat)) rfl rfl (.bool false) rfl rfl (Zdp (by omega)) ?_
  refine Zd (Ze (Zi (Zz rfl (Zez (Zd3 (Zc3 (Zdt rfl (Ze (Zi (Zm (Zb (Iv 0) (Zc (Iv 0) (Zd (Ze (Zs (Zq ?_))))))))))))))))
  rw [show orL l = 0 from Zwy (fun j hj => hR j (by omega))]
  exact Zk (v := Iv 0) rfl rfl rfl (by kernel_rfl) rfl
theorem Zm1 (a b : Claim) : Zat Try.prog G 45 [Zx a, Zx b] [] (Iv (Zhr a b)) [] := by
  refine Zcg (fn := Try.f45) (nt := 17) rfl rfl rfl rfl ?_
  refine Za8 3 (H' := [hole, hole, hole]) rfl ?_
  refine Zi (Zm (Zbn (v := Zx a) (b := bxB 36 (Zr a)) (nid := 0) (H' := [bxB 36 (Zr a), hole, hole]) (Zbn (v := Zx b) (b := bxB 36 (Zr b)) (nid := 1) (H' := [bxB 36 (Zr a), bxB 36 (Zr b), hole]) (Zc (Iv 0) (Zd (Ze (Zi ?_)))))))
  refine Zek (by kernel_rfl) ?_
  refine Zf (b := 0) (o := 0) (n := 0) (o' := 0) (Zl (p := pt 0 0) (v := Iv a.region) (Zf (b := 1) (o := 0) (n := 0) (o' := 0) (Zl (p := pt 1 0) (v := Iv b.region) ?_)))
  refine Zw (Zml (G := G) a.region b.region) (vals := [Iv a.region, Iv b.region]) (res' := Iv (Ze9 a.region b.region)) rfl rfl rfl rfl rfl rfl ?_
  refine Zf (b := 0) (o := 0) (n := 1) (o' := 1) (Zl (p := pt 0 1) (v := Iv a.epoch) (Zf (b := 1) (o := 0) (n := 1) (o' := 1) (Zl (p := pt 1 1) (v := Iv b.epoch) ?_)))
  refine Zw (Zml (G := G) a.epoch b.epoch) (vals := [Iv a.epoch, Iv b.epoch]) (res' := Iv (Ze9 a.epoch b.epoch)) rfl rfl rfl rfl rfl rfl ?_
  refine Zgl (vs := [(0, Iv (Ze9 a.region b.region)), (1, Iv (Ze9 a.epoch b.epoch))]) (v := slv 2 0 2 2) (blk := rwB Zr6 [(Ze9 a.region b.region), (Ze9 a.epoch b.epoch)]) (nid := 2) (H' := [bxB 36 (Zr a), bxB 36 (Zr b), rwB Zr6 [(Ze9 a.region b.region), (Ze9 a.epoch b.epoch)]]) rfl rfl rfl (by kernel_rfl) (by kernel_rfl) ?_
  refine Zab (e := [some (2, 0)]) (nid := 0) (Z0b (G := G) [(Ze9 a.region b.region), (Ze9 a.epoch b.epoch)] 2 2 (rfl : _ = 2) (by omega) (by omega)) (vals := [slv 2 0 2 2]) (v := Iv (orL [(Ze9 a.region b.region), (Ze9 a.epoch b.epoch)])) (H' := [bxB 36 (Zr a), bxB 36 (Zr b), rwB Zr6 [(Ze9 a.region b.region), (Ze9 a.epoch b.epoch)]]) rfl rfl rfl rfl rfl rfl rfl ⟨⟨⟨rfl, rfl, rfl, by first | omega | exact Nat.le_refl _, by first | omega | exact Nat.le_refl _⟩, trivial⟩, ⟨(Zbd rfl), trivial⟩, rfl, rfl, rfl⟩ rfl (by kernel_rfl) ?_
  refine Zc (Iv (orL [(Ze9 a.region b.region), (Ze9 a.epoch b.epoch)])) ?_
  refine Zbv (Za4 [[], [0], [], [2], [0, 1, 2, 3], [], [5], [], [7], [0, 1, 2, 3, 4, 5, 6, 7, 8], [0, 1, 2, 3, 4, 5, 6, 7, 8, 9], [0, 1, 2, 3, 4, 5, 6, 7, 8, 9, 10], [0, 1, 2, 3, 4, 5, 6, 7, 8, 9, 10, 11]] (by kernel_rfl) (by kernel_rfl)) ?_
  refine Ze (Zs (Zq ?_))
  exact Zk (v := Iv (orL [(Ze9 a.region b.region), (Ze9 a.epoch b.epoch)])) rfl rfl rfl (by kernel_rfl) rfl
theorem Zk1 (l : List Claim) (n c : Nat) (hn : l.length = n) (hc : n ≤ c) (hb : n ≤ 1048576) : Zat Try.prog G 28 [slv 0 0 n c] [rwR Zh l] (Iv (Zec l)) [rwR Zh l] := by
  refine Zcg (fn := Try.f28) (nt := 30) rfl rfl rfl rfl ?_
  refine Zi (Zm (Zc (Iv 0) (Zd (Ze (Zi (Zi (Zm (Zb (slv 0 0 n c) (Zbg (p := slv 0 0 n c) (v := Iv (n : Nat)) (Zb (Iv 0) (Zd (Ze (Zav ?_)))))))))))))
  refine Zdz (fun i : Nat => [slv 0 0 n c, dead, dead, dead, dead, slv 0 0 n c, Iv (n : Nat), Iv (i : Nat)]) (fun i : Nat => [rwR Zh l]) (fun i : Nat => (∀ j, j < i → okC l j) ∧ i ≤ n) (fun i : Nat => n - i) 0 ⟨fun _ h => absurd h (by omega), by omega⟩ ?_ ?_
  · refine Zau (n := 1) rfl ?_ (by kernel_rfl) (by kernel_rfl)
    repeat (first | exact trivial | refine ⟨.inl rfl, ?_⟩ | refine ⟨.inr ⟨rfl, rfl⟩, ?_⟩ | refine ⟨.inr ⟨congrArg (Value.int .i64) (by first | omega | (dsimp only; omega)), rfl⟩, ?_⟩)
  rintro i ⟨hR, hi⟩
  refine Za8 2 (H' := [rwR Zh l, hole, hole]) rfl ?_
  refine Zi (Zm ?_)
  by_cases h1 : (i : Nat) < (n : Nat)
  refine Zn (vx := Iv (i : Nat)) (vy := Iv (n : Nat)) rfl rfl (.bool true) rfl rfl (Zdq (by omega)) ?_
  refine Zd (Ze (Zi (Z4 rfl (Z9 (Ze (Zi (Zav (Zi (Zm (Zb (Iv (i : Nat)) ?_))))))))))
  refine Zb0 (b := 0) (o := 0) (j := i * 36) (m := n) (c := c) (sz := 36) (i := (i : Nat)) (k := .i64) rfl rfl rfl rfl rfl (by omega) (by omega) (by omega) ?_
  refine Zba (p := pt 0 (i * 36)) (v := Zx (l.getD i default)) rfl rfl rfl (Zcm (n := 0) (m := 36) Zh rfl rfl rfl rfl (by have := hn; omega) (by omega)) ?_
  refine Zbf (b := bxB 36 (Zr (⟨0, 0, 0, 0, dz⟩ : Claim))) (nid := 1) (H' := [rwR Zh l, bxB 36 (Zr (⟨0, 0, 0, 0, dz⟩ : Claim)), hole]) (Zc (Iv (i : Nat)) (Z5 (p := pt 1 0) (v := Zx (l.getD i default)) (b := 1) (blk := bxB 36 (Zr (l.getD i default))) (H' := [rwR Zh l, bxB 36 (Zr (l.getD i default)), hole]) (Zd (Ze (Zi ?_)))))
  refine Zel (by kernel_rfl) ?_
  refine Zl (p := pt 1 0) (v := Zx (l.getD i default)) ?_
  refine Zw (Zhd (G := G) (l.getD i default)) (vals := [Zx (l.getD i default)]) (res' := Iv (Ze6 (l.getD i default))) rfl rfl rfl rfl rfl rfl ?_
  by_cases h2 : (Ze6 (l.getD i default)) ≠ 0
  refine Zn (vx := Iv (Ze6 (l.getD i default))) (vy := Iv 0) rfl rfl (.bool true) rfl rfl (Zd5 (by omega)) ?_
  refine Zb (.bool true) (Za (Za (Za (Za (Za (Za (Za (Za (Za (Za (Za (Za (Zg (.bool true) ?_)))))))))))))
  refine Zb6 (Zay [[], [0], [0, 1], [0, 1, 2], [0, 1, 2, 3], [0, 1, 2, 3, 4], [0, 1, 2, 3, 4, 5], [0, 1, 2, 3, 4, 5, 6], [0, 1, 2, 3, 4, 5, 6], [0, 1, 2, 3, 4, 5, 6, 8], [0, 1, 2, 3, 4, 5, 6, 7, 8, 9], [0, 1, 2, 3, 4, 5, 6, 7, 8, 9, 10], [0, 1, 2, 3, 4, 5, 6], [0, 1, 2, 3, 4, 5, 6, 7, 8, 9, 10, 11, 12], [0, 1, 2, 3, 4, 5, 6, 7, 8, 9, 10, 11, 12, 13], [0, 1, 2, 3, 4, 5, 6, 7, 8, 9, 10, 11, 12, 13, 14], [0, 1, 2, 3, 4, 5, 6, 7, 8, 9, 10, 11, 12, 13, 14, 15]] (by kernel_rfl) (by kernel_rfl)) ?_
  refine Ze (Z4 rfl (Zi (Zm (Zc (Iv 110) (Zd (Ze (Zs (Zy (Zv (Zb5 (Zy (Zv (Zq ?_)))))))))))))
  rw [show Zec l = 110 from if_neg (fun q => by have q1 := q i (by omega); first | exact Zqe (by omega) q1.1 | (have q2 := Zhs.2 (q1.2 (by omega)); omega))]
  exact Zk (v := Iv 110) rfl rfl rfl (by kernel_rfl) rfl
  refine Zn (vx := Iv (Ze6 (l.getD i default))) (vy := Iv 0) rfl rfl (.bool false) rfl rfl (Zd4 (by omega)) ?_
  refine Zb (.bool false) (Zb (Iv (i : Nat)) ?_)
  by_cases h3 : 0 < (i : Nat)
  refine Zn (vx := Iv (i : Nat)) (vy := Iv 0) rfl rfl (.bool true) rfl rfl (Zfe (by omega)) ?_
  refine Zb (.bool true) (Zb (slv 0 0 n c) (Zb (Iv (i : Nat)) ?_))
  refine Zn (vx := Iv (i : Nat)) (vy := Iv 1) rfl rfl (Iv ((i : Nat) - 1)) rfl rfl (Zg4 (by omega) (by omega) (by omega)) ?_
  refine Zb0 (b := 0) (o := 0) (j := (i - 1) * 36) (m := n) (c := c) (sz := 36) (i := (i : Nat) - 1) (k := .i64) rfl rfl rfl rfl rfl (by omega) (by omega) (by omega) ?_
  refine Zba (p := pt 0 ((i - 1) * 36)) (v := Zx (l.getD (i - 1) default)) rfl rfl rfl (Zcm (n := 0) (m := 36) Zh rfl rfl rfl rfl (by have := hn; omega) (by omega)) ?_
  refine Zl (p := pt 1 0) (v := Zx (l.getD i default)) ?_
  refine Zw (Zm1 (G := G) (l.getD (i - 1) default) (l.getD i default)) (vals := [Zx (l.getD (i - 1) default), Zx (l.getD i default)]) (res' := Iv (Zhr (l.getD (i - 1) default) (l.getD i default))) rfl rfl rfl rfl rfl rfl ?_
  by_cases h4 : 0 ≤ (Zhr (l.getD (i - 1) default) (l.getD i default))
  refine Zn (vx := Iv (Zhr (l.getD (i - 1) default) (l.getD i default))) (vy := Iv 0) rfl rfl (.bool true) rfl rfl (Zic (by omega)) ?_
  refine Zg (.bool true) (Zg (.bool true) ?_)
  refine Zb6 (Zay [[], [0], [0, 1], [0, 1, 2], [0, 1, 2, 3], [0, 1, 2, 3, 4], [0, 1, 2, 3, 4, 5], [0, 1, 2, 3, 4, 5, 6], [0, 1, 2, 3, 4, 5, 6], [0, 1, 2, 3, 4, 5, 6, 8], [0, 1, 2, 3, 4, 5, 6, 7, 8, 9], [0, 1, 2, 3, 4, 5, 6, 7, 8, 9, 10], [0, 1, 2, 3, 4, 5, 6], [0, 1, 2, 3, 4, 5, 6, 7, 8, 9, 10, 11, 12], [0, 1, 2, 3, 4, 5, 6, 7, 8, 9, 10, 11, 12, 13], [0, 1, 2, 3, 4, 5, 6, 7, 8, 9, 10, 11, 12, 13, 14], [0, 1, 2, 3, 4, 5, 6, 7, 8, 9, 10, 11, 12, 13, 14, 15]] (by kernel_rfl) (by kernel_rfl)) ?_
  refine Ze (Z4 rfl (Zi (Zm (Zc (Iv 110) (Zd (Ze (Zs (Zy (Zv (Zb5 (Zy (Zv (Zq ?_)))))))))))))
  rw [show Zec l = 110 from if_neg (fun q => by have q1 := q i (by omega); first | exact Zqe (by omega) q1.1 | (have q2 := Zhs.2 (q1.2 (by omega)); omega))]
  exact Zk (v := Iv 110) rfl rfl rfl (by kernel_rfl) rfl
  refine Zn (vx := Iv (Zhr (l.getD (i - 1) default) (l.getD i default))) (vy := Iv 0) rfl rfl (.bool false) rfl rfl (Zho (by omega)) ?_
  refine Zg (.bool false) (Zg (.bool false) ?_)
  refine Zb6 (Zay [[], [0], [0, 1], [0, 1, 2], [0, 1, 2, 3], [0, 1, 2, 3, 4], [0, 1, 2, 3, 4, 5], [0, 1, 2, 3, 4, 5, 6], [0, 1, 2, 3, 4, 5, 6], [0, 1, 2, 3, 4, 5, 6, 8], [0, 1, 2, 3, 4, 5, 6, 7, 8, 9], [0, 1, 2, 3, 4, 5, 6, 7, 8, 9, 10], [0, 1, 2, 3, 4, 5, 6], [0, 1, 2, 3, 4, 5, 6, 7, 8, 9, 10, 11, 12], [0, 1, 2, 3, 4, 5, 6, 7, 8, 9, 10, 11, 12, 13], [0, 1, 2, 3, 4, 5, 6, 7, 8, 9, 10, 11, 12, 13, 14], [0, 1, 2, 3, 4, 5, 6, 7, 8, 9, 10, 11, 12, 13, 14, 15]] (by kernel_rfl) (by kernel_rfl)) ?_
  refine Ze (Zz rfl (Z9 (Z7 (Ze (Zm ?_)))))
  refine Zn (vx := Iv (i : Nat)) (vy := Iv 1) rfl rfl (Iv ((i : Nat) + 1)) rfl rfl (Zbi (by omega) (by omega) (by omega)) ?_
  refine Zb (Iv ((i : Nat) + 1)) (Zd ?_)
  refine Zad ⟨(i + 1), ⟨fun j hj => by rcases Nat.lt_or_ge j i with h | h; exact hR j h; obtain rfl : j = i := (by omega); exact ⟨Zj9 (by omega), fun q => by first | omega | exact Zhs.1 (by omega)⟩, by omega⟩, by show n - (i + 1) < n - i; omega, ?_⟩
  refine Zau (n := 1) rfl ?_ (by kernel_rfl) (by kernel_rfl)
  repeat (first | exact trivial | refine ⟨.inl rfl, ?_⟩ | refine ⟨.inr ⟨rfl, rfl⟩, ?_⟩ | refine ⟨.inr ⟨congrArg (Value.int .i64) (by first | omega | (dsimp only; omega)), rfl⟩, ?_⟩)
  refine Zn (vx := Iv (i : Nat)) (vy := Iv 0) rfl rfl (.bool false) rfl rfl (Zfd (by omega)) ?_
  refine Zb (.bool false) (Za (Za (Za (Za (Za (Za (Za (Za (Zg (.bool false) (Zg (.bool false) ?_))))))))))
  refine Zb6 (Zay [[], [0], [0, 1], [0, 1, 2], [0, 1, 2, 3], [0, 1, 2, 3, 4], [0, 1, 2, 3, 4, 5], [0, 1, 2, 3, 4, 5, 6], [0, 1, 2, 3, 4, 5, 6], [0, 1, 2, 3, 4, 5, 6, 8], [0, 1, 2, 3, 4, 5, 6, 7, 8, 9], [0, 1, 2, 3, 4, 5, 6, 7, 8, 9, 10], [0, 1, 2, 3, 4, 5, 6], [0, 1, 2, 3, 4, 5, 6, 7, 8, 9, 10, 11, 12], [0, 1, 2, 3, 4, 5, 6, 7, 8, 9, 10, 11, 12, 13], [0, 1, 2, 3, 4, 5, 6, 7, 8, 9, 10, 11, 12, 13, 14], [0, 1, 2, 3, 4, 5, 6, 7, 8, 9, 10, 11, 12, 13, 14, 15]] (by kernel_rfl) (by kernel_rfl)) ?_
  refine Ze (Zz rfl (Z9 (Z7 (Ze (Zm ?_)))))
  refine Zn (vx := Iv (i : Nat)) (vy := Iv 1) rfl rfl (Iv ((i : Nat) + 1)) rfl rfl (Zbi (by omega) (by omega) (by omega)) ?_
  refine Zb (Iv ((i : Nat) + 1)) (Zd ?_)
  refine Zad ⟨(i + 1), ⟨fun j hj => by rcases Nat.lt_or_ge j i with h | h; exact hR j h; obtain rfl : j = i := (by omega); exact ⟨Zj9 (by omega), fun q => by first | omega | exact Zhs.1 (by omega)⟩, by omega⟩, by show n - (i + 1) < n - i; omega, ?_⟩
  refine Zau (n := 1) rfl ?_ (by kernel_rfl) (by kernel_rfl)
  repeat (first | exact trivial | refine ⟨.inl rfl, ?_⟩ | refine ⟨.inr ⟨rfl, rfl⟩, ?_⟩ | refine ⟨.inr ⟨congrArg (Value.int .i64) (by first | omega | (dsimp only; omega)), rfl⟩, ?_⟩)
  refine Zn (vx := Iv (i : Nat)) (vy := Iv (n : Nat)) rfl rfl (.bool false) rfl rfl (Zdp (by omega)) ?_
  refine Zd (Ze (Zi (Zz rfl (Zez (Zd3 (Zc3 (Zdt rfl (Ze (Zi (Zm (Zc (Iv 0) (Zd (Ze (Zs (Zq ?_)))))))))))))))
  rw [show Zec l = 0 from if_pos (fun j hj => hR j (by omega))]
  exact Zk (v := Iv 0) rfl rfl rfl (by kernel_rfl) rfl
theorem Ziv (a b : Claim) : Zat Try.prog G 51 [Zx a, Zx b] [] (.bool (decide (Zbm a b))) [] := by
 refine Zcg (fn := Try.f51) (nt := 24) rfl rfl rfl rfl ?_
 refine Za8 2 (H' := [hole, hole]) rfl ?_
 refine Zi (Zm (Zbn (v := Zx a) (b := bxB 36 (Zr a)) (nid := 0) (H' := [bxB 36 (Zr a), hole]) (Zbn (v := Zx b) (b := bxB 36 (Zr b)) (nid := 1) (H' := [bxB 36 (Zr a), bxB 36 (Zr b)]) (Zc (.bool false) (Zd (Ze (Zi (Zm (Zf (b := 0) (o := 0) (n := 0) (o' := 0) (Zl (p := pt 0 0) (v := Iv a.region) (Zf (b := 1) (o := 0) (n := 0) (o' := 0) (Zl (p := pt 1 0) (v := Iv b.region) ?_))))))))))))
 by_cases h1 : a.region < b.region
 refine Zn (vx := Iv a.region) (vy := Iv b.region) rfl rfl (.bool true) rfl rfl (Zdq (by omega)) ?_
 refine Zb (.bool true) (Za (Za (Za (Za (Za (Za (Za (Za (Za (Za (Za (Za (Zg (.bool true) (Zc (.bool true) (Zd (Ze (Zs (Zq ?_))))))))))))))))))
 rw [show decide (Zbm a b) = true from decide_eq_true (by unfold Zbm; omega)]
 exact Zk (v := .bool true) rfl rfl rfl (by kernel_rfl) rfl
 refine Zn (vx := Iv a.region) (vy := Iv b.region) rfl rfl (.bool false) rfl rfl (Zdp (by omega)) ?_
 refine Zb (.bool false) (Zf (b := 0) (o := 0) (n := 0) (o' := 0) (Zl (p := pt 0 0) (v := Iv a.region) (Zf (b := 1) (o := 0) (n := 0) (o' := 0) (Zl (p := pt 1 0) (v := Iv b.region) ?_))))
 by_cases h2 : a.region = b.region
 refine Zn (vx := Iv a.region) (vy := Iv b.region) rfl rfl (.bool true) rfl rfl (Zaj (by omega)) ?_
 refine Zb (.bool true) (Zf (b := 0) (o := 0) (n := 1) (o' := 1) (Zl (p := pt 0 1) (v := Iv a.epoch) (Zf (b := 1) (o := 0) (n := 1) (o' := 1) (Zl (p := pt 1 1) (v := Iv b.epoch) ?_))))
 by_cases h3 : a.epoch < b.epoch
 refine Zn (vx := Iv a.epoch) (vy := Iv b.epoch) rfl rfl (.bool true) rfl rfl (Zdq (by omega)) ?_
 refine Zg (.bool true) (Zg (.bool true) (Zc (.bool true) (Zd (Ze (Zs (Zq ?_))))))
 rw [show decide (Zbm a b) = true from decide_eq_true (by unfold Zbm; omega)]
 exact Zk (v := .bool true) rfl rfl rfl (by kernel_rfl) rfl
 refine Zn (vx := Iv a.epoch) (vy := Iv b.epoch) rfl rfl (.bool false) rfl rfl (Zdp (by omega)) ?_
 refine Zg (.bool false) (Zg (.bool false) (Zc (.bool false) (Zd (Ze (Zs (Zq ?_))))))
 rw [show decide (Zbm a b) = false from decide_eq_false (by unfold Zbm; omega)]
 exact Zk (v := .bool false) rfl rfl rfl (by kernel_rfl) rfl
 refine Zn (vx := Iv a.region) (vy := Iv b.region) rfl rfl (.bool false) rfl rfl (Zaq (by omega)) ?_
 refine Zb (.bool false) (Za (Za (Za (Za (Za (Zg (.bool false) (Zg (.bool false) (Zc (.bool false) (Zd (Ze (Zs (Zq ?_))))))))))))
 rw [show decide (Zbm a b) = false from decide_eq_false (by unfold Zbm; omega)]
 exact Zk (v := .bool false) rfl rfl rfl (by kernel_rfl) rfl
theorem Zjo (l : List Claim) (n c : Nat) (hn : l.length = n) (hc : n ≤ c) (hb : n ≤ 1048576) : Zat Try.prog G 33 [slv 0 0 n c] [rwR Zh l] (.bool (decide (Zbw l))) [rwR Zh l] := by
  refine Zcg (fn := Try.f33) (nt := 33) rfl rfl rfl rfl ?_
  refine Zi (Zm (Zc (.bool false) (Zd (Ze (Zi (Zi (Zm (Zc (Iv 0) (Zd (Ze (Zav ?_)))))))))))
  refine Zdz (fun i : Nat => [slv 0 0 n c, dead, dead, Iv (i : Nat)]) (fun i : Nat => [rwR Zh l]) (fun i : Nat => (∀ j, j < i → okC l j) ∧ i ≤ n) (fun i : Nat => n - i) 0 ⟨fun _ h => absurd h (by omega), by omega⟩ ?_ ?_
  · refine Zau (n := 1) rfl ?_ (by kernel_rfl) (by kernel_rfl)
    repeat (first | exact trivial | refine ⟨.inl rfl, ?_⟩ | refine ⟨.inr ⟨rfl, rfl⟩, ?_⟩ | refine ⟨.inr ⟨congrArg (Value.int .i64) (by first | omega | (dsimp only; omega)), rfl⟩, ?_⟩)
  rintro i ⟨hR, hi⟩
  refine Za8 2 (H' := [rwR Zh l, hole, hole]) rfl ?_
  refine Zi (Zi (Zm (Zb (Iv (i : Nat)) (Zb (slv 0 0 n c) (Zbg (p := slv 0 0 n c) (v := Iv (n : Nat)) ?_)))))
  by_cases h1 : (i : Nat) < (n : Nat)
  refine Zn (vx := Iv (i : Nat)) (vy := Iv (n : Nat)) rfl rfl (.bool true) rfl rfl (Zdq (by omega)) ?_
  refine Zd (Ze (Z4 rfl (Z9 (Ze (Zi (Zav (Zi ?_)))))))
  refine Zel (by kernel_rfl) ?_
  refine Zb (slv 0 0 n c) (Zb (Iv (i : Nat)) ?_)
  refine Zb0 (b := 0) (o := 0) (j := i * 36) (m := n) (c := c) (sz := 36) (i := (i : Nat)) (k := .i64) rfl rfl rfl rfl rfl (by omega) (by omega) (by omega) ?_
  refine Zba (p := pt 0 (i * 36)) (v := Zx (l.getD i default)) rfl rfl rfl (Zcm (n := 0) (m := 36) Zh rfl rfl rfl rfl (by have := hn; omega) (by omega)) ?_
  refine Zw (Zfw (G := G) (l.getD i default)) (vals := [Zx (l.getD i default)]) (res' := .bool (decide (Zaz (l.getD i default)))) rfl rfl rfl rfl rfl rfl ?_
  rcases Bool.eq_false_or_eq_true (decide (Zaz (l.getD i default))) with h2 | h2
  refine Zcx (vx := .bool (decide (Zaz (l.getD i default)))) rfl rfl (.bool false) rfl (Eq.trans Za3 (congrArg (fun b => some (Value.bool !b)) h2)) ?_
  refine Zb (.bool false) (Zb (Iv (i : Nat)) ?_)
  by_cases h3 : 0 < (i : Nat)
  refine Zn (vx := Iv (i : Nat)) (vy := Iv 0) rfl rfl (.bool true) rfl rfl (Zfe (by omega)) ?_
  refine Zb (.bool true) (Zb (slv 0 0 n c) (Zb (Iv (i : Nat)) ?_))
  refine Zn (vx := Iv (i : Nat)) (vy := Iv 1) rfl rfl (Iv ((i : Nat) - 1)) rfl rfl (Zg4 (by omega) (by omega) (by omega)) ?_
  refine Zb0 (b := 0) (o := 0) (j := (i - 1) * 36) (m := n) (c := c) (sz := 36) (i := (i : Nat) - 1) (k := .i64) rfl rfl rfl rfl rfl (by omega) (by omega) (by omega) ?_
  refine Zba (p := pt 0 ((i - 1) * 36)) (v := Zx (l.getD (i - 1) default)) rfl rfl rfl (Zcm (n := 0) (m := 36) Zh rfl rfl rfl rfl (by have := hn; omega) (by omega)) ?_
  refine Zb (slv 0 0 n c) (Zb (Iv (i : Nat)) ?_)
  refine Zb0 (b := 0) (o := 0) (j := i * 36) (m := n) (c := c) (sz := 36) (i := (i : Nat)) (k := .i64) rfl rfl rfl rfl rfl (by omega) (by omega) (by omega) ?_
  refine Zba (p := pt 0 (i * 36)) (v := Zx (l.getD i default)) rfl rfl rfl (Zcm (n := 0) (m := 36) Zh rfl rfl rfl rfl (by have := hn; omega) (by omega)) ?_
  refine Zw (Ziv (G := G) (l.getD (i - 1) default) (l.getD i default)) (vals := [Zx (l.getD (i - 1) default), Zx (l.getD i default)]) (res' := .bool (decide (Zbm (l.getD (i - 1) default) (l.getD i default)))) rfl rfl rfl rfl rfl rfl ?_
  rcases Bool.eq_false_or_eq_true (decide (Zbm (l.getD (i - 1) default) (l.getD i default))) with h4 | h4
  refine Zcx (vx := .bool (decide (Zbm (l.getD (i - 1) default) (l.getD i default)))) rfl rfl (.bool false) rfl (Eq.trans Za3 (congrArg (fun b => some (Value.bool !b)) h4)) ?_
  refine Zg (.bool false) (Zg (.bool false) ?_)
  refine Zb6 (Zay [[], [], [0, 1], [0, 1, 2], [0, 1, 2, 3], [0, 1, 2, 3, 4], [0, 1, 2, 3, 4, 5], [0, 1, 2, 3, 4, 5, 6], [0, 1, 2, 3, 4, 5, 6, 7], [0, 1, 2, 3, 4, 5, 6, 7, 8], [0, 1, 2, 3, 4, 5, 6, 7, 8, 9], [0, 1, 2, 3, 4, 5, 6, 7, 8, 9], [0, 1, 2, 3, 4, 5, 6, 7, 8, 9, 11], [0, 1, 2, 3, 4, 5, 6, 7, 8, 9, 10, 11, 12], [0, 1, 2, 3, 4, 5, 6, 7, 8, 9, 10, 11, 12, 13], [0, 1, 2, 3, 4, 5, 6, 7, 8, 9], [0, 1, 2, 3, 4, 5, 6, 7, 8, 9], [0, 1, 2, 3, 4, 5, 6, 7, 8, 9, 15, 16], [0, 1, 2, 3, 4, 5, 6, 7, 8, 9, 15, 16, 17], [0, 1, 2, 3, 4, 5, 6, 7, 8, 9, 10, 11, 12, 13, 14, 15, 16, 17, 18], [0, 1, 2, 3, 4, 5, 6, 7, 8, 9, 10, 11, 12, 13, 14, 15, 16, 17, 18, 19], [0, 1, 2, 3, 4, 5, 6, 7, 8, 9, 10, 11, 12, 13, 14, 15, 16, 17, 18, 19, 20], [0, 1, 2, 3, 4, 5, 6, 7, 8, 9, 10, 11, 12, 13, 14, 15, 16, 17, 18, 19, 20, 21]] (by kernel_rfl) (by kernel_rfl)) ?_
  refine Ze (Zz rfl (Z9 (Z7 (Ze (Zm (Zb (Iv (i : Nat)) ?_))))))
  refine Zn (vx := Iv (i : Nat)) (vy := Iv 1) rfl rfl (Iv ((i : Nat) + 1)) rfl rfl (Zbi (by omega) (by omega) (by omega)) ?_
  refine Zc (Iv ((i : Nat) + 1)) (Zd ?_)
  refine Zad ⟨(i + 1), ⟨fun j hj => by rcases Nat.lt_or_ge j i with h | h; exact hR j h; obtain rfl : j = i := (by omega); exact ⟨of_decide_eq_true (by assumption), fun q => by first | omega | exact of_decide_eq_true (by assumption)⟩, by omega⟩, by show n - (i + 1) < n - i; omega, ?_⟩
  refine Zau (n := 1) rfl ?_ (by kernel_rfl) (by kernel_rfl)
  repeat (first | exact trivial | refine ⟨.inl rfl, ?_⟩ | refine ⟨.inr ⟨rfl, rfl⟩, ?_⟩ | refine ⟨.inr ⟨congrArg (Value.int .i64) (by first | omega | (dsimp only; omega)), rfl⟩, ?_⟩)
  refine Zcx (vx := .bool (decide (Zbm (l.getD (i - 1) default) (l.getD i default)))) rfl rfl (.bool true) rfl (Eq.trans Za3 (congrArg (fun b => some (Value.bool !b)) h4)) ?_
  refine Zg (.bool true) (Zg (.bool true) ?_)
  refine Zb6 (Zay [[], [], [0, 1], [0, 1, 2], [0, 1, 2, 3], [0, 1, 2, 3, 4], [0, 1, 2, 3, 4, 5], [0, 1, 2, 3, 4, 5, 6], [0, 1, 2, 3, 4, 5, 6, 7], [0, 1, 2, 3, 4, 5, 6, 7, 8], [0, 1, 2, 3, 4, 5, 6, 7, 8, 9], [0, 1, 2, 3, 4, 5, 6, 7, 8, 9], [0, 1, 2, 3, 4, 5, 6, 7, 8, 9, 11], [0, 1, 2, 3, 4, 5, 6, 7, 8, 9, 10, 11, 12], [0, 1, 2, 3, 4, 5, 6, 7, 8, 9, 10, 11, 12, 13], [0, 1, 2, 3, 4, 5, 6, 7, 8, 9], [0, 1, 2, 3, 4, 5, 6, 7, 8, 9], [0, 1, 2, 3, 4, 5, 6, 7, 8, 9, 15, 16], [0, 1, 2, 3, 4, 5, 6, 7, 8, 9, 15, 16, 17], [0, 1, 2, 3, 4, 5, 6, 7, 8, 9, 10, 11, 12, 13, 14, 15, 16, 17, 18], [0, 1, 2, 3, 4, 5, 6, 7, 8, 9, 10, 11, 12, 13, 14, 15, 16, 17, 18, 19], [0, 1, 2, 3, 4, 5, 6, 7, 8, 9, 10, 11, 12, 13, 14, 15, 16, 17, 18, 19, 20], [0, 1, 2, 3, 4, 5, 6, 7, 8, 9, 10, 11, 12, 13, 14, 15, 16, 17, 18, 19, 20, 21]] (by kernel_rfl) (by kernel_rfl)) ?_
  refine Ze (Z4 rfl (Zi (Zm (Zc (.bool false) (Zd (Ze (Zs (Zy (Zv (Zb5 (Zy (Zv (Zq ?_)))))))))))))
  rw [show decide (Zbw l) = false from decide_eq_false (fun q => by have q1 := q i (by omega); first | exact absurd q1.1 (of_decide_eq_false (by assumption)) | exact absurd (q1.2 (by omega)) (of_decide_eq_false (by assumption)))]
  exact Zk (v := .bool false) rfl rfl rfl (by kernel_rfl) rfl
  refine Zn (vx := Iv (i : Nat)) (vy := Iv 0) rfl rfl (.bool false) rfl rfl (Zfd (by omega)) ?_
  refine Zb (.bool false) (Za (Za (Za (Za (Za (Za (Za (Za (Za (Za (Za (Zg (.bool false) (Zg (.bool false) ?_)))))))))))))
  refine Zb6 (Zay [[], [], [0, 1], [0, 1, 2], [0, 1, 2, 3], [0, 1, 2, 3, 4], [0, 1, 2, 3, 4, 5], [0, 1, 2, 3, 4, 5, 6], [0, 1, 2, 3, 4, 5, 6, 7], [0, 1, 2, 3, 4, 5, 6, 7, 8], [0, 1, 2, 3, 4, 5, 6, 7, 8, 9], [0, 1, 2, 3, 4, 5, 6, 7, 8, 9], [0, 1, 2, 3, 4, 5, 6, 7, 8, 9, 11], [0, 1, 2, 3, 4, 5, 6, 7, 8, 9, 10, 11, 12], [0, 1, 2, 3, 4, 5, 6, 7, 8, 9, 10, 11, 12, 13], [0, 1, 2, 3, 4, 5, 6, 7, 8, 9], [0, 1, 2, 3, 4, 5, 6, 7, 8, 9], [0, 1, 2, 3, 4, 5, 6, 7, 8, 9, 15, 16], [0, 1, 2, 3, 4, 5, 6, 7, 8, 9, 15, 16, 17], [0, 1, 2, 3, 4, 5, 6, 7, 8, 9, 10, 11, 12, 13, 14, 15, 16, 17, 18], [0, 1, 2, 3, 4, 5, 6, 7, 8, 9, 10, 11, 12, 13, 14, 15, 16, 17, 18, 19], [0, 1, 2, 3, 4, 5, 6, 7, 8, 9, 10, 11, 12, 13, 14, 15, 16, 17, 18, 19, 20], [0, 1, 2, 3, 4, 5, 6, 7, 8, 9, 10, 11, 12, 13, 14, 15, 16, 17, 18, 19, 20, 21]] (by kernel_rfl) (by kernel_rfl)) ?_
  refine Ze (Zz rfl (Z9 (Z7 (Ze (Zm (Zb (Iv (i : Nat)) ?_))))))
  refine Zn (vx := Iv (i : Nat)) (vy := Iv 1) rfl rfl (Iv ((i : Nat) + 1)) rfl rfl (Zbi (by omega) (by omega) (by omega)) ?_
  refine Zc (Iv ((i : Nat) + 1)) (Zd ?_)
  refine Zad ⟨(i + 1), ⟨fun j hj => by rcases Nat.lt_or_ge j i with h | h; exact hR j h; obtain rfl : j = i := (by omega); exact ⟨of_decide_eq_true (by assumption), fun q => by first | omega | exact of_decide_eq_true (by assumption)⟩, by omega⟩, by show n - (i + 1) < n - i; omega, ?_⟩
  refine Zau (n := 1) rfl ?_ (by kernel_rfl) (by kernel_rfl)
  repeat (first | exact trivial | refine ⟨.inl rfl, ?_⟩ | refine ⟨.inr ⟨rfl, rfl⟩, ?_⟩ | refine ⟨.inr ⟨congrArg (Value.int .i64) (by first | omega | (dsimp only; omega)), rfl⟩, ?_⟩)
  refine Zcx (vx := .bool (decide (Zaz (l.getD i default)))) rfl rfl (.bool true) rfl (Eq.trans Za3 (congrArg (fun b => some (Value.bool !b)) h2)) ?_
  refine Zb (.bool true) (Za (Za (Za (Za (Za (Za (Za (Za (Za (Za (Za (Za (Za (Za (Za (Zg (.bool true) ?_))))))))))))))))
  refine Zb6 (Zay [[], [], [0, 1], [0, 1, 2], [0, 1, 2, 3], [0, 1, 2, 3, 4], [0, 1, 2, 3, 4, 5], [0, 1, 2, 3, 4, 5, 6], [0, 1, 2, 3, 4, 5, 6, 7], [0, 1, 2, 3, 4, 5, 6, 7, 8], [0, 1, 2, 3, 4, 5, 6, 7, 8, 9], [0, 1, 2, 3, 4, 5, 6, 7, 8, 9], [0, 1, 2, 3, 4, 5, 6, 7, 8, 9, 11], [0, 1, 2, 3, 4, 5, 6, 7, 8, 9, 10, 11, 12], [0, 1, 2, 3, 4, 5, 6, 7, 8, 9, 10, 11, 12, 13], [0, 1, 2, 3, 4, 5, 6, 7, 8, 9], [0, 1, 2, 3, 4, 5, 6, 7, 8, 9], [0, 1, 2, 3, 4, 5, 6, 7, 8, 9, 15, 16], [0, 1, 2, 3, 4, 5, 6, 7, 8, 9, 15, 16, 17], [0, 1, 2, 3, 4, 5, 6, 7, 8, 9, 10, 11, 12, 13, 14, 15, 16, 17, 18], [0, 1, 2, 3, 4, 5, 6, 7, 8, 9, 10, 11, 12, 13, 14, 15, 16, 17, 18, 19], [0, 1, 2, 3, 4, 5, 6, 7, 8, 9, 10, 11, 12, 13, 14, 15, 16, 17, 18, 19, 20], [0, 1, 2, 3, 4, 5, 6, 7, 8, 9, 10, 11, 12, 13, 14, 15, 16, 17, 18, 19, 20, 21]] (by kernel_rfl) (by kernel_rfl)) ?_
  refine Ze (Z4 rfl (Zi (Zm (Zc (.bool false) (Zd (Ze (Zs (Zy (Zv (Zb5 (Zy (Zv (Zq ?_)))))))))))))
  rw [show decide (Zbw l) = false from decide_eq_false (fun q => by have q1 := q i (by omega); first | exact absurd q1.1 (of_decide_eq_false (by assumption)) | exact absurd (q1.2 (by omega)) (of_decide_eq_false (by assumption)))]
  exact Zk (v := .bool false) rfl rfl rfl (by kernel_rfl) rfl
  refine Zn (vx := Iv (i : Nat)) (vy := Iv (n : Nat)) rfl rfl (.bool false) rfl rfl (Zdp (by omega)) ?_
  refine Zd (Ze (Zz rfl (Zez (Zd3 (Zc3 (Zdt rfl (Ze (Zi (Zm (Zc (.bool true) (Zd (Ze (Zs (Zq ?_))))))))))))))
  rw [show decide (Zbw l) = true from decide_eq_true (fun j hj => hR j (by omega))]
  exact Zk (v := .bool true) rfl rfl rfl (by kernel_rfl) rfl
theorem Zrj (l m : List Claim) (n c p d : Nat) (hn : l.length = n) (hm : m.length = p) (hc : n ≤ c) (hd : p ≤ d) (hb : n ≤ 1048576) (hb2 : p ≤ 1048576) : Zat Try.prog G 35 [slv 0 0 n c, slv 1 0 p d] [rwR Zh l, rwR Zh m] (.bool (Zdr l m)) [rwR Zh l, rwR Zh m] := by
  refine Zcg (fn := Try.f35) (nt := 26) rfl rfl rfl rfl ?_
  refine Zi (Zm (Zc (.bool false) (Zd (Ze (Zi (Zi (Zm (Zb (slv 0 0 n c) (Zbg (p := slv 0 0 n c) (v := Iv (n : Nat)) (Zb (slv 1 0 p d) (Zbg (p := slv 1 0 p d) (v := Iv (p : Nat)) ?_)))))))))))
  by_cases h1 : (n : Nat) ≠ (p : Nat)
  refine Zn (vx := Iv (n : Nat)) (vy := Iv (p : Nat)) rfl rfl (.bool true) rfl rfl (Zd5 (by omega)) ?_
  refine Zd (Ze (Z4 rfl (Zi (Zm (Zc (.bool false) (Zd (Ze (Zs (Zv (Zq ?_))))))))))
  rw [show Zdr l m = false from by first | exact Zm9 (by omega) | exact Zrn i (by omega) (by assumption)]
  exact Zk (v := .bool false) rfl rfl rfl (by kernel_rfl) rfl
  refine Zn (vx := Iv (n : Nat)) (vy := Iv (p : Nat)) rfl rfl (.bool false) rfl rfl (Zd4 (by omega)) ?_
  refine Zd (Ze (Zz rfl (Z9 (Ze (Zi (Zi (Zm (Zc (Iv 0) (Zd (Ze (Zav ?_)))))))))))
  refine Zdz (fun i : Nat => [slv 0 0 n c, slv 1 0 p d, dead, dead, dead, Iv (i : Nat), slv 0 0 n c, Iv (n : Nat), slv 1 0 p d, Iv (p : Nat), .bool false]) (fun i : Nat => [rwR Zh l, rwR Zh m]) (fun i : Nat => (∀ j, j < i → Zu (l.getD j default) (m.getD j default) = true) ∧ i ≤ n) (fun i : Nat => n - i) 0 ⟨fun _ h => absurd h (by omega), by omega⟩ ?_ ?_
  · refine Zau (n := 2) rfl ?_ (by kernel_rfl) (by kernel_rfl)
    repeat (first | exact trivial | refine ⟨.inl rfl, ?_⟩ | refine ⟨.inr ⟨rfl, rfl⟩, ?_⟩ | refine ⟨.inr ⟨congrArg (Value.int .i64) (by first | omega | (dsimp only; omega)), rfl⟩, ?_⟩)
  rintro i ⟨hR, hi⟩
  refine Za8 1 (H' := [rwR Zh l, rwR Zh m, hole]) rfl ?_
  refine Zi (Zi (Zm (Zb (Iv (i : Nat)) (Zb (slv 0 0 n c) (Zbg (p := slv 0 0 n c) (v := Iv (n : Nat)) ?_)))))
  by_cases h2 : (i : Nat) < (n : Nat)
  refine Zn (vx := Iv (i : Nat)) (vy := Iv (n : Nat)) rfl rfl (.bool true) rfl rfl (Zdq (by omega)) ?_
  refine Zd (Ze (Z4 rfl (Z9 (Ze (Zi (Zav (Zi ?_)))))))
  refine Zek (by kernel_rfl) ?_
  refine Zb (slv 0 0 n c) (Zb (Iv (i : Nat)) ?_)
  refine Zb0 (b := 0) (o := 0) (j := i * 36) (m := n) (c := c) (sz := 36) (i := (i : Nat)) (k := .i64) rfl rfl rfl rfl rfl (by omega) (by omega) (by omega) ?_
  refine Zba (p := pt 0 (i * 36)) (v := Zx (l.getD i default)) rfl rfl rfl (Zcm (n := 0) (m := 36) Zh rfl rfl rfl rfl (by have := hn; omega) (by omega)) ?_
  refine Zb (slv 1 0 p d) (Zb (Iv (i : Nat)) ?_)
  refine Zb0 (b := 1) (o := 0) (j := i * 36) (m := p) (c := d) (sz := 36) (i := (i : Nat)) (k := .i64) rfl rfl rfl rfl rfl (by omega) (by omega) (by omega) ?_
  refine Zba (p := pt 1 (i * 36)) (v := Zx (m.getD i default)) rfl rfl rfl (Zcm (n := 0) (m := 36) Zh rfl rfl rfl rfl (by have := hm; omega) (by omega)) ?_
  rcases Bool.eq_false_or_eq_true (Zu (l.getD i default) (m.getD i default)) with h3 | h3
  refine Zn (vx := Zx (l.getD i default)) (vy := Zx (m.getD i default)) rfl rfl (.bool false) rfl rfl (Eq.trans (Zgt (l.getD i default) (m.getD i default)) (by rw [h3] <;> rfl)) ?_
  refine Zbv (Za4 [[], [], [0, 1], [0, 1, 2], [], [], [4, 5], [4, 5, 6], [0, 1, 2, 3, 4, 5, 6, 7]] (by kernel_rfl) (by kernel_rfl)) ?_
  refine Ze (Zz rfl (Z9 (Z7 (Ze (Zm (Zb (Iv (i : Nat)) ?_))))))
  refine Zn (vx := Iv (i : Nat)) (vy := Iv 1) rfl rfl (Iv ((i : Nat) + 1)) rfl rfl (Zbi (by omega) (by omega) (by omega)) ?_
  refine Zc (Iv ((i : Nat) + 1)) (Zd ?_)
  refine Zad ⟨(i + 1), ⟨fun j hj => by rcases Nat.lt_or_ge j i with h | h; exact hR j h; obtain rfl : j = i := (by omega); assumption, by omega⟩, by show n - (i + 1) < n - i; omega, ?_⟩
  refine Zau (n := 2) rfl ?_ (by kernel_rfl) (by kernel_rfl)
  repeat (first | exact trivial | refine ⟨.inl rfl, ?_⟩ | refine ⟨.inr ⟨rfl, rfl⟩, ?_⟩ | refine ⟨.inr ⟨congrArg (Value.int .i64) (by first | omega | (dsimp only; omega)), rfl⟩, ?_⟩)
  refine Zn (vx := Zx (l.getD i default)) (vy := Zx (m.getD i default)) rfl rfl (.bool true) rfl rfl (Eq.trans (Zgt (l.getD i default) (m.getD i default)) (by rw [h3] <;> rfl)) ?_
  refine Zbv (Za4 [[], [], [0, 1], [0, 1, 2], [], [], [4, 5], [4, 5, 6], [0, 1, 2, 3, 4, 5, 6, 7]] (by kernel_rfl) (by kernel_rfl)) ?_
  refine Ze (Z4 rfl (Zi (Zm (Zc (.bool false) (Zd (Ze (Zs (Zy (Zv (Zb5 (Zy (Zv (Zq ?_)))))))))))))
  rw [show Zdr l m = false from by first | exact Zm9 (by omega) | exact Zrn i (by omega) (by assumption)]
  exact Zk (v := .bool false) rfl rfl rfl (by kernel_rfl) rfl
  refine Zn (vx := Iv (i : Nat)) (vy := Iv (n : Nat)) rfl rfl (.bool false) rfl rfl (Zdp (by omega)) ?_
  refine Zd (Ze (Zz rfl (Zez (Zd3 (Zc3 (Zdt rfl (Ze (Zi (Zm (Zc (.bool true) (Zd (Ze (Zs (Zq ?_))))))))))))))
  rw [show Zdr l m = true from Zrp (by omega) (fun j hj => hR j (by omega))]
  exact Zk (v := .bool true) rfl rfl rfl (by kernel_rfl) rfl
theorem Zsw (l : List Claim) (n c : Nat) (hn : l.length = n) (hc : n ≤ c) (hb : n ≤ 1048576) : Zat Try.prog G 25 [slv 0 0 n c] [rwR Zh l] (slv 1 0 n n) [rwR Zh l, rwB Zh l] := by
  refine Zcg (fn := Try.f25) (nt := 8) rfl rfl rfl rfl ?_
  refine Za8 1 (H' := [rwR Zh l, hole]) rfl ?_
  refine Zi (Zm (Zc (.slice none 0 0) (Zd (Ze (Zi (Zm (Zc (.slice none 0 0) (Zd (Ze (Zi ?_))))))))))
  refine Zbh (Zbz.nilTmp (i := 3) (b := 1) true 36 rfl (by decide) rfl) ?_
  refine Zm (Zb (slv 1 0 0 0) (Zb (slv 0 0 n c) ?_))
  have hl2 : ([] ++ l).length = n := by have := hn; first | (rw [List.length_append]; omega) | (rw [List.length_append, List.length_take]; omega) | (simp; omega) | simp
  refine Zc1 (p := slv 1 0 0 0) (q := slv 0 0 n c) (v := slv 1 0 n n) (b := 1) (blk := rwB Zh ([] ++ l)) (H' := [rwR Zh l, rwB Zh ([] ++ l)]) rfl rfl rfl (.inl ⟨_, rfl⟩) rfl rfl (Zds Zh (by_ := 64) (k := n) (n' := n) (ms := l) (fun _ => rfl) rfl rfl (Zhu Zh rfl rfl (by have := hn; omega)) rfl rfl rfl (by omega) (by decide) (by omega)) rfl (by kernel_rfl) ?_
  refine Zc (slv 1 0 n n) (Zd (Ze (Zi (Zm (Zb (slv 1 0 n n) (Zc (slv 1 0 n n) (Zd (Ze (Zs (Zq ?_))))))))))
  exact Zar [0, 1] (v := slv 1 0 n n) rfl (by kernel_rfl) rfl rfl (by decide) (by simp [Zbr, rwB, rwR, Zh]) ⟨rfl, rfl, rfl, by first | omega | exact Nat.le_refl _ | exact Nat.zero_le _ | (dsimp only; omega), by first | omega | exact Nat.le_refl _ | exact Nat.zero_le _ | (dsimp only; omega)⟩
end Go.Flat
