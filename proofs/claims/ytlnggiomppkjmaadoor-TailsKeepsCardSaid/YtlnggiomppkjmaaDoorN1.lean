/- Walks. -/
import Derived.Test.YtlnggiomppkjmaaDoorP1
set_option linter.unusedVariables false
set_option linter.unusedSimpArgs false
set_option maxRecDepth 20000
namespace Go.Flat
open Go.Proofs
variable {G : Glob}
def Zcr (x y : Int) : Int := if x < y then -1 else if y < x then 1 else 0
def orL (l : List Int) : Int := (l.find? (fun x => x != 0)).getD 0
theorem Zrd {l : List Int} : ∀ {i : Nat}, (∀ j, j < i → l.getD j default = 0) → i < l.length → l.getD i default ≠ 0 → orL l = l.getD i default := by
 induction l with
 | nil => intro i _ h; simp at h
 | cons x l ih =>
  intro i h1 h2 h3
  cases i with
  | zero =>
   have h3' : x ≠ 0 := h3
   show orL (x :: l) = x
   unfold orL
   rw [List.find?_cons_of_pos (by simpa using h3')]; rfl
  | succ i =>
   have hx : x = 0 := h1 0 (by omega)
   subst hx
   show orL (0 :: l) = l.getD i default
   rw [← ih (fun j hj => h1 (j + 1) (by omega)) (by simpa using h2) h3]
   unfold orL
   rw [List.find?_cons_of_neg (by simp)]
theorem Zs4 {l : List Int} (h : ∀ j, j < l.length → l.getD j default = 0) : orL l = 0 := by
 unfold orL
 rw [List.find?_eq_none.2 ?_]
 ·rfl
 ·intro x hx
  obtain ⟨i, hi, rfl⟩ := List.getElem_of_mem hx
  have := h i hi
  rw [List.getD_eq_getElem?_getD, List.getElem?_eq_getElem hi] at this
  simpa using this
def Zs5 (a b : Claim) : Int := orL [Zcr a.region b.region, Zcr a.epoch b.epoch]
def Zqt (a b : Claim) : Prop := a.region < b.region ∨ (a.region = b.region ∧ a.epoch < b.epoch)
instance (a b : Claim) : Decidable (Zqt a b) := inferInstanceAs (Decidable (_ ∨ _))
theorem Z2q (a b : Claim) : Zs5 a b = if Zcr a.region b.region ≠ 0 then Zcr a.region b.region else Zcr a.epoch b.epoch := by
 unfold Zs5 orL
 by_cases h : Zcr a.region b.region = 0
 ·rw [List.find?_cons_of_neg (by simp [h]), if_neg (by simp [h])]
  by_cases h2 : Zcr a.epoch b.epoch = 0
  ·rw [List.find?_cons_of_neg (by simp [h2]), h2]; rfl
  ·rw [List.find?_cons_of_pos (by simpa using h2)]; rfl
 ·rw [List.find?_cons_of_pos (by simpa using h), if_pos h]; rfl
theorem Zlo {a b : Claim} : Zs5 a b < 0 ↔ Zqt a b := by
 rw [Z2q]; unfold Zcr Zqt
 constructor
 ·intro h; repeat (first | omega | split at h)
 ·intro h; repeat (first | omega | split)
def okC (l : List Claim) (i : Nat) : Prop := Zdz (l.getD i default) ∧ (0 < i → Zqt (l.getD (i - 1) default) (l.getD i default))
def Zls (l : List Claim) : Prop := ∀ i, i < l.length → okC l i
instance (l : List Claim) (i : Nat) : Decidable (okC l i) := inferInstanceAs (Decidable (_ ∧ _))
instance (l : List Claim) : Decidable (Zls l) := inferInstanceAs (Decidable (∀ i, i < l.length → okC l i))
def Zja (l : List Claim) : Int := if Zls l then 0 else 110
theorem Zpt {l : List Claim} (h : Zja l = 0) : Zls l := by
 unfold Zja at h
 split at h
 ·assumption
 ·omega
theorem Ze8 {l : List Claim} (h : ¬ Zja l = 0) : ¬ Zls l := fun q => h (if_pos q)
def Z44 (l m : List Claim) : Bool := decide (l.length = m.length) && (List.range l.length).all fun i => Zdq (l.getD i default) (m.getD i default)
theorem Zsq (x : Int) : Z6 Tryd.prog G 46 [Iv x] [] (.bool false) [] := by
 refine Zbh (fn := Tryd.f46) (nt := 6) rfl rfl rfl rfl ?_
 refine Zf (Zg (Zb (.bool false) (Za (Zc (Zf (Zg (Zd (Iv x) (Zd (Iv x) ?_))))))))
 refine Zl (vx := Iv x) (vy := Iv x) rfl rfl (.bool false) rfl rfl (Zfw (by omega)) ?_
 refine Zb (.bool false) (Za (Zc (Zr (Zt ?_))))
 exact Zm (v := .bool false) rfl rfl rfl (by kernel_rfl) rfl
theorem Zif (x y : Int) : Z6 Tryd.prog G 26 [Iv x, Iv y] [] (Iv (Zcr x y)) [] := by
 refine Zbh (fn := Tryd.f26) (nt := 20) rfl rfl rfl rfl ?_
 refine Zf (Zg (Zb (Iv 0) (Za (Zc (Zf (Zg (Zd (Iv x) ?_)))))))
 refine Zs (Zsq (G := G) x) (vals := [Iv x]) (res' := .bool false) rfl rfl rfl rfl rfl rfl ?_
 refine Zb (.bool false) (Za (Zc (Zf (Zg (Zd (Iv y) ?_)))))
 refine Zs (Zsq (G := G) y) (vals := [Iv y]) (res' := .bool false) rfl rfl rfl rfl rfl rfl ?_
 refine Zb (.bool false) (Za (Zc (Zf (Zf (Zg (Zd (.bool false) (Za (Zc (Zu rfl (Zz (Zc (Zf (Zf (Zg (Zd (.bool false) (Za (Zc (Zu rfl (Zz (Zc (Zf (Zf (Zg (Zd (Iv x) (Zd (Iv y) ?_)))))))))))))))))))))))))
 by_cases h1 : x < y
 refine Zl (vx := Iv x) (vy := Iv y) rfl rfl (.bool true) rfl rfl (Zck (by omega)) ?_
 refine Za (Zc (Zy rfl (Zf (Zg (Zb (Iv (-1)) (Za (Zc (Zr (Z2 (Zt ?_))))))))))
 rw [show Zcr x y = -1 from by unfold Zcr; split <;> (try split) <;> omega]
 exact Zm (v := Iv (-1)) rfl rfl rfl (by kernel_rfl) rfl
 refine Zl (vx := Iv x) (vy := Iv y) rfl rfl (.bool false) rfl rfl (Zcd (by omega)) ?_
 refine Za (Zc (Zu rfl (Zz (Zc (Zf (Zf (Zg (Zd (Iv x) (Zd (Iv y) ?_)))))))))
 by_cases h2 : y < x
 refine Zl (vx := Iv x) (vy := Iv y) rfl rfl (.bool true) rfl rfl (Zfs (by omega)) ?_
 refine Za (Zc (Zy rfl (Zf (Zg (Zb (Iv 1) (Za (Zc (Zr (Z2 (Zt ?_))))))))))
 rw [show Zcr x y = 1 from by unfold Zcr; split <;> (try split) <;> omega]
 exact Zm (v := Iv 1) rfl rfl rfl (by kernel_rfl) rfl
 refine Zl (vx := Iv x) (vy := Iv y) rfl rfl (.bool false) rfl rfl (Zfr (by omega)) ?_
 refine Za (Zc (Zu rfl (Zz (Zc (Zf (Zg (Zb (Iv 0) (Za (Zc (Zr (Zt ?_)))))))))))
 rw [show Zcr x y = 0 from by unfold Zcr; split <;> (try split) <;> omega]
 exact Zm (v := Iv 0) rfl rfl rfl (by kernel_rfl) rfl
theorem Z3c (l : List Int) (n c : Nat) (hn : l.length = n) (hc : n ≤ c) (hb : n ≤ 1048576) : Z6 Tryd.prog G 25 [slv 0 0 n c] [rwR Zd5 l] (Iv (orL l)) [rwR Zd5 l] := by
  refine Zbh (fn := Tryd.f25) (nt := 18) rfl rfl rfl rfl ?_
  refine Zf (Zg (Zb (Iv 0) (Za (Zc (Zf (Zg (Zb (Iv 0) (Za (Zc (Zf (Zf (Zg (Zd (slv 0 0 n c) (Zaw (p := slv 0 0 n c) (v := Iv (n : Nat)) (Zd (Iv 0) (Za (Zc (Z8 ?_))))))))))))))))))
  refine Zbt (fun i : Nat => [slv 0 0 n c, dead, dead, Iv 0, dead, dead, slv 0 0 n c, Iv (n : Nat), Iv (i : Nat)]) (fun i : Nat => [rwR Zd5 l]) (fun i : Nat => (∀ j, j < i → l.getD j default = 0) ∧ i ≤ n) (fun i : Nat => n - i) 0 ⟨fun _ h => absurd h (by omega), by omega⟩ ?_ ?_
  · refine Zaj (n := 1) rfl ?_ (by kernel_rfl) (by kernel_rfl)
    repeat (first | exact trivial | refine ⟨.inl rfl, ?_⟩ | refine ⟨.inr ⟨rfl, rfl⟩, ?_⟩ | refine ⟨.inr ⟨congrArg (Value.int .i64) (by first | omega | (dsimp only; omega)), rfl⟩, ?_⟩)
  rintro i ⟨hR, hi⟩
  refine Zf (Zg ?_)
  by_cases h1 : (i : Nat) < (n : Nat)
  refine Zl (vx := Iv (i : Nat)) (vy := Iv (n : Nat)) rfl rfl (.bool true) rfl rfl (Zck (by omega)) ?_
  refine Za (Zc (Zf (Zy rfl (Zz (Zc (Zf (Z8 (Zf (Zg ?_)))))))))
  refine Zbo (b := 0) (o := 0) (j := i) (m := n) (c := c) (sz := 1) (i := (i : Nat)) (k := .i64) rfl rfl rfl rfl rfl (by omega) (by omega) (by omega) ?_
  refine Zal (p := pt 0 i) (v := Iv (l.getD i default)) rfl rfl rfl (Zli (m := 1) Zd5 (l := l) (i := i) rfl rfl rfl rfl (by have := hn; omega) (by omega) rfl rfl) ?_
  refine Zb (Iv (l.getD i default)) (Za (Zc (Zf (Zg (Zd (Iv (l.getD i default)) (Zd (Iv 0) ?_))))))
  by_cases h2 : (l.getD i default) ≠ 0
  refine Zl (vx := Iv (l.getD i default)) (vy := Iv 0) rfl rfl (.bool true) rfl rfl (Zgf (by omega)) ?_
  refine Za (Zc (Zy rfl (Zf (Zg (Zd (Iv (l.getD i default)) (Zb (Iv (l.getD i default)) (Za (Zc (Zr (Zar (Z2 (Zcy (Zar (Z2 (Zt ?_)))))))))))))))
  rw [show orL l = l.getD i default from Zrd hR (by omega) (by omega)]
  exact Zm (v := Iv (l.getD i default)) rfl rfl rfl (by kernel_rfl) rfl
  refine Zl (vx := Iv (l.getD i default)) (vy := Iv 0) rfl rfl (.bool false) rfl rfl (Zfw (by omega)) ?_
  refine Za (Zc (Zu rfl (Zz (Z7 (Zc (Zg ?_))))))
  refine Zl (vx := Iv (i : Nat)) (vy := Iv 1) rfl rfl (Iv ((i : Nat) + 1)) rfl rfl (Zak (by omega) (by omega) (by omega)) ?_
  refine Zd (Iv ((i : Nat) + 1)) (Za ?_)
  refine Zag ⟨(i + 1), ⟨fun j hj => by rcases Nat.lt_or_ge j i with h | h; exact hR j h; obtain rfl : j = i := (by omega); omega, by omega⟩, by show n - (i + 1) < n - i; omega, ?_⟩
  refine Zaj (n := 1) rfl ?_ (by kernel_rfl) (by kernel_rfl)
  repeat (first | exact trivial | refine ⟨.inl rfl, ?_⟩ | refine ⟨.inr ⟨rfl, rfl⟩, ?_⟩ | refine ⟨.inr ⟨congrArg (Value.int .i64) (by first | omega | (dsimp only; omega)), rfl⟩, ?_⟩)
  refine Zl (vx := Iv (i : Nat)) (vy := Iv (n : Nat)) rfl rfl (.bool false) rfl rfl (Zcd (by omega)) ?_
  refine Za (Zc (Zf (Zu rfl (Zbm (Zaq (Zax (Zav rfl (Zc (Zf (Zg (Zd (Iv 0) (Zb (Iv 0) (Za (Zc (Zr (Zt ?_))))))))))))))))
  rw [show orL l = 0 from Zs4 (fun j hj => hR j (by omega))]
  exact Zm (v := Iv 0) rfl rfl rfl (by kernel_rfl) rfl
theorem Zz9 (a b : Claim) : Z6 Tryd.prog G 56 [Zai a, Zai b] [] (Iv (Zs5 a b)) [] := by
  refine Zbh (fn := Tryd.f56) (nt := 17) rfl rfl rfl rfl ?_
  refine Zaf 3 (H' := [hole, hole, hole]) rfl ?_
  refine Zf (Zg (Zb7 (v := Zai a) (b := bxB 36 (Zat a)) (nid := 0) (H' := [bxB 36 (Zat a), hole, hole]) (Zb7 (v := Zai b) (b := bxB 36 (Zat b)) (nid := 1) (H' := [bxB 36 (Zat a), bxB 36 (Zat b), hole]) (Zb (Iv 0) (Za (Zc (Zf ?_)))))))
  refine Zgh (by kernel_rfl) ?_
  refine Zh (b := 0) (o := 0) (n := 0) (o' := 0) (Zn (p := pt 0 0) (v := Iv a.region) (Zh (b := 1) (o := 0) (n := 0) (o' := 0) (Zn (p := pt 1 0) (v := Iv b.region) ?_)))
  refine Zs (Zif (G := G) a.region b.region) (vals := [Iv a.region, Iv b.region]) (res' := Iv (Zcr a.region b.region)) rfl rfl rfl rfl rfl rfl ?_
  refine Zh (b := 0) (o := 0) (n := 1) (o' := 1) (Zn (p := pt 0 1) (v := Iv a.epoch) (Zh (b := 1) (o := 0) (n := 1) (o' := 1) (Zn (p := pt 1 1) (v := Iv b.epoch) ?_)))
  refine Zs (Zif (G := G) a.epoch b.epoch) (vals := [Iv a.epoch, Iv b.epoch]) (res' := Iv (Zcr a.epoch b.epoch)) rfl rfl rfl rfl rfl rfl ?_
  refine Zep (vs := [(0, Iv (Zcr a.region b.region)), (1, Iv (Zcr a.epoch b.epoch))]) (v := slv 2 0 2 2) (blk := rwB Zd5 [(Zcr a.region b.region), (Zcr a.epoch b.epoch)]) (nid := 2) (H' := [bxB 36 (Zat a), bxB 36 (Zat b), rwB Zd5 [(Zcr a.region b.region), (Zcr a.epoch b.epoch)]]) rfl rfl rfl (by kernel_rfl) (by kernel_rfl) ?_
  refine Z5 (e := [some (2, 0)]) (nid := 0) (Z3c (G := G) [(Zcr a.region b.region), (Zcr a.epoch b.epoch)] 2 2 (rfl : _ = 2) (by omega) (by omega)) (vals := [slv 2 0 2 2]) (v := Iv (orL [(Zcr a.region b.region), (Zcr a.epoch b.epoch)])) (H' := [bxB 36 (Zat a), bxB 36 (Zat b), rwB Zd5 [(Zcr a.region b.region), (Zcr a.epoch b.epoch)]]) rfl rfl rfl rfl rfl rfl rfl ⟨⟨⟨rfl, rfl, rfl, by first | omega | exact Nat.le_refl _, by first | omega | exact Nat.le_refl _⟩, trivial⟩, ⟨(Zb8 rfl), trivial⟩, rfl, rfl, rfl⟩ rfl (by kernel_rfl) ?_
  refine Zb (Iv (orL [(Zcr a.region b.region), (Zcr a.epoch b.epoch)])) ?_
  refine Zdm (Zc4 [[], [0], [], [2], [0, 1, 2, 3], [], [5], [], [7], [0, 1, 2, 3, 4, 5, 6, 7, 8], [0, 1, 2, 3, 4, 5, 6, 7, 8, 9], [0, 1, 2, 3, 4, 5, 6, 7, 8, 9, 10], [0, 1, 2, 3, 4, 5, 6, 7, 8, 9, 10, 11]] (by kernel_rfl) (by kernel_rfl)) ?_
  refine Zc (Zr (Zt ?_))
  exact Zm (v := Iv (orL [(Zcr a.region b.region), (Zcr a.epoch b.epoch)])) rfl rfl rfl (by kernel_rfl) rfl
theorem Zwn (l : List Claim) (n c : Nat) (hn : l.length = n) (hc : n ≤ c) (hb : n ≤ 1048576) : Z6 Tryd.prog G 44 [slv 0 0 n c] [rwR Ze5 l] (Iv (Zja l)) [rwR Ze5 l] := by
  refine Zbh (fn := Tryd.f44) (nt := 30) rfl rfl rfl rfl ?_
  refine Zf (Zg (Zb (Iv 0) (Za (Zc (Zf (Zf (Zg (Zd (slv 0 0 n c) (Zaw (p := slv 0 0 n c) (v := Iv (n : Nat)) (Zd (Iv 0) (Za (Zc (Z8 ?_)))))))))))))
  refine Zbt (fun i : Nat => [slv 0 0 n c, dead, dead, dead, dead, slv 0 0 n c, Iv (n : Nat), Iv (i : Nat)]) (fun i : Nat => [rwR Ze5 l]) (fun i : Nat => (∀ j, j < i → okC l j) ∧ i ≤ n) (fun i : Nat => n - i) 0 ⟨fun _ h => absurd h (by omega), by omega⟩ ?_ ?_
  · refine Zaj (n := 1) rfl ?_ (by kernel_rfl) (by kernel_rfl)
    repeat (first | exact trivial | refine ⟨.inl rfl, ?_⟩ | refine ⟨.inr ⟨rfl, rfl⟩, ?_⟩ | refine ⟨.inr ⟨congrArg (Value.int .i64) (by first | omega | (dsimp only; omega)), rfl⟩, ?_⟩)
  rintro i ⟨hR, hi⟩
  refine Zaf 2 (H' := [rwR Ze5 l, hole, hole]) rfl ?_
  refine Zf (Zg ?_)
  by_cases h1 : (i : Nat) < (n : Nat)
  refine Zl (vx := Iv (i : Nat)) (vy := Iv (n : Nat)) rfl rfl (.bool true) rfl rfl (Zck (by omega)) ?_
  refine Za (Zc (Zf (Zy rfl (Zz (Zc (Zf (Z8 (Zf (Zg (Zd (Iv (i : Nat)) ?_))))))))))
  refine Zbo (b := 0) (o := 0) (j := i * 36) (m := n) (c := c) (sz := 36) (i := (i : Nat)) (k := .i64) rfl rfl rfl rfl rfl (by omega) (by omega) (by omega) ?_
  refine Zal (p := pt 0 (i * 36)) (v := Zai (l.getD i default)) rfl rfl rfl (Zf6 (n := 0) (m := 36) Ze5 rfl rfl rfl rfl (by have := hn; omega) (by omega)) ?_
  refine Za9 (b := bxB 36 (Zat (⟨0, 0, 0, 0, dz⟩ : Claim))) (nid := 1) (H' := [rwR Ze5 l, bxB 36 (Zat (⟨0, 0, 0, 0, dz⟩ : Claim)), hole]) (Zb (Iv (i : Nat)) (Zab (p := pt 1 0) (v := Zai (l.getD i default)) (b := 1) (blk := bxB 36 (Zat (l.getD i default))) (H' := [rwR Ze5 l, bxB 36 (Zat (l.getD i default)), hole]) (Za (Zc (Zf ?_)))))
  refine Zgl (by kernel_rfl) ?_
  refine Zn (p := pt 1 0) (v := Zai (l.getD i default)) ?_
  refine Zs (Zf4 (G := G) (l.getD i default)) (vals := [Zai (l.getD i default)]) (res' := Iv (Zdd (l.getD i default))) rfl rfl rfl rfl rfl rfl ?_
  by_cases h2 : (Zdd (l.getD i default)) ≠ 0
  refine Zl (vx := Iv (Zdd (l.getD i default))) (vy := Iv 0) rfl rfl (.bool true) rfl rfl (Zgf (by omega)) ?_
  refine Zd (.bool true) (Ze (Ze (Ze (Ze (Ze (Ze (Ze (Ze (Ze (Ze (Ze (Ze (Zk (.bool true) ?_)))))))))))))
  refine Zdc (Zb2 [[], [0], [0, 1], [0, 1, 2], [0, 1, 2, 3], [0, 1, 2, 3, 4], [0, 1, 2, 3, 4, 5], [0, 1, 2, 3, 4, 5, 6], [0, 1, 2, 3, 4, 5, 6], [0, 1, 2, 3, 4, 5, 6, 8], [0, 1, 2, 3, 4, 5, 6, 7, 8, 9], [0, 1, 2, 3, 4, 5, 6, 7, 8, 9, 10], [0, 1, 2, 3, 4, 5, 6], [0, 1, 2, 3, 4, 5, 6, 7, 8, 9, 10, 11, 12], [0, 1, 2, 3, 4, 5, 6, 7, 8, 9, 10, 11, 12, 13], [0, 1, 2, 3, 4, 5, 6, 7, 8, 9, 10, 11, 12, 13, 14], [0, 1, 2, 3, 4, 5, 6, 7, 8, 9, 10, 11, 12, 13, 14, 15]] (by kernel_rfl) (by kernel_rfl)) ?_
  refine Zc (Zy rfl (Zf (Zg (Zb (Iv 110) (Za (Zc (Zr (Zar (Z2 (Zcy (Zar (Z2 (Zt ?_)))))))))))))
  rw [show Zja l = 110 from if_neg (fun q => by have q1 := q i (by omega); first | exact Zkw (by omega) q1.1 | (have q2 := Zlo.2 (q1.2 (by omega)); omega))]
  exact Zm (v := Iv 110) rfl rfl rfl (by kernel_rfl) rfl
  refine Zl (vx := Iv (Zdd (l.getD i default))) (vy := Iv 0) rfl rfl (.bool false) rfl rfl (Zfw (by omega)) ?_
  refine Zd (.bool false) (Zd (Iv (i : Nat)) ?_)
  by_cases h3 : 0 < (i : Nat)
  refine Zl (vx := Iv (i : Nat)) (vy := Iv 0) rfl rfl (.bool true) rfl rfl (Zfs (by omega)) ?_
  refine Zd (.bool true) (Zd (slv 0 0 n c) (Zd (Iv (i : Nat)) ?_))
  refine Zl (vx := Iv (i : Nat)) (vy := Iv 1) rfl rfl (Iv ((i : Nat) - 1)) rfl rfl (Zhh (by omega) (by omega) (by omega)) ?_
  refine Zbo (b := 0) (o := 0) (j := (i - 1) * 36) (m := n) (c := c) (sz := 36) (i := (i : Nat) - 1) (k := .i64) rfl rfl rfl rfl rfl (by omega) (by omega) (by omega) ?_
  refine Zal (p := pt 0 ((i - 1) * 36)) (v := Zai (l.getD (i - 1) default)) rfl rfl rfl (Zf6 (n := 0) (m := 36) Ze5 rfl rfl rfl rfl (by have := hn; omega) (by omega)) ?_
  refine Zn (p := pt 1 0) (v := Zai (l.getD i default)) ?_
  refine Zs (Zz9 (G := G) (l.getD (i - 1) default) (l.getD i default)) (vals := [Zai (l.getD (i - 1) default), Zai (l.getD i default)]) (res' := Iv (Zs5 (l.getD (i - 1) default) (l.getD i default))) rfl rfl rfl rfl rfl rfl ?_
  by_cases h4 : 0 ≤ (Zs5 (l.getD (i - 1) default) (l.getD i default))
  refine Zl (vx := Iv (Zs5 (l.getD (i - 1) default) (l.getD i default))) (vy := Iv 0) rfl rfl (.bool true) rfl rfl (Zoe (by omega)) ?_
  refine Zk (.bool true) (Zk (.bool true) ?_)
  refine Zdc (Zb2 [[], [0], [0, 1], [0, 1, 2], [0, 1, 2, 3], [0, 1, 2, 3, 4], [0, 1, 2, 3, 4, 5], [0, 1, 2, 3, 4, 5, 6], [0, 1, 2, 3, 4, 5, 6], [0, 1, 2, 3, 4, 5, 6, 8], [0, 1, 2, 3, 4, 5, 6, 7, 8, 9], [0, 1, 2, 3, 4, 5, 6, 7, 8, 9, 10], [0, 1, 2, 3, 4, 5, 6], [0, 1, 2, 3, 4, 5, 6, 7, 8, 9, 10, 11, 12], [0, 1, 2, 3, 4, 5, 6, 7, 8, 9, 10, 11, 12, 13], [0, 1, 2, 3, 4, 5, 6, 7, 8, 9, 10, 11, 12, 13, 14], [0, 1, 2, 3, 4, 5, 6, 7, 8, 9, 10, 11, 12, 13, 14, 15]] (by kernel_rfl) (by kernel_rfl)) ?_
  refine Zc (Zy rfl (Zf (Zg (Zb (Iv 110) (Za (Zc (Zr (Zar (Z2 (Zcy (Zar (Z2 (Zt ?_)))))))))))))
  rw [show Zja l = 110 from if_neg (fun q => by have q1 := q i (by omega); first | exact Zkw (by omega) q1.1 | (have q2 := Zlo.2 (q1.2 (by omega)); omega))]
  exact Zm (v := Iv 110) rfl rfl rfl (by kernel_rfl) rfl
  refine Zl (vx := Iv (Zs5 (l.getD (i - 1) default) (l.getD i default))) (vy := Iv 0) rfl rfl (.bool false) rfl rfl (Zod (by omega)) ?_
  refine Zk (.bool false) (Zk (.bool false) ?_)
  refine Zdc (Zb2 [[], [0], [0, 1], [0, 1, 2], [0, 1, 2, 3], [0, 1, 2, 3, 4], [0, 1, 2, 3, 4, 5], [0, 1, 2, 3, 4, 5, 6], [0, 1, 2, 3, 4, 5, 6], [0, 1, 2, 3, 4, 5, 6, 8], [0, 1, 2, 3, 4, 5, 6, 7, 8, 9], [0, 1, 2, 3, 4, 5, 6, 7, 8, 9, 10], [0, 1, 2, 3, 4, 5, 6], [0, 1, 2, 3, 4, 5, 6, 7, 8, 9, 10, 11, 12], [0, 1, 2, 3, 4, 5, 6, 7, 8, 9, 10, 11, 12, 13], [0, 1, 2, 3, 4, 5, 6, 7, 8, 9, 10, 11, 12, 13, 14], [0, 1, 2, 3, 4, 5, 6, 7, 8, 9, 10, 11, 12, 13, 14, 15]] (by kernel_rfl) (by kernel_rfl)) ?_
  refine Zc (Zu rfl (Zz (Z7 (Zc (Zg ?_)))))
  refine Zl (vx := Iv (i : Nat)) (vy := Iv 1) rfl rfl (Iv ((i : Nat) + 1)) rfl rfl (Zak (by omega) (by omega) (by omega)) ?_
  refine Zd (Iv ((i : Nat) + 1)) (Za ?_)
  refine Zag ⟨(i + 1), ⟨fun j hj => by rcases Nat.lt_or_ge j i with h | h; exact hR j h; obtain rfl : j = i := (by omega); exact ⟨Zkx (by omega), fun q => by first | omega | exact Zlo.1 (by omega)⟩, by omega⟩, by show n - (i + 1) < n - i; omega, ?_⟩
  refine Zaj (n := 1) rfl ?_ (by kernel_rfl) (by kernel_rfl)
  repeat (first | exact trivial | refine ⟨.inl rfl, ?_⟩ | refine ⟨.inr ⟨rfl, rfl⟩, ?_⟩ | refine ⟨.inr ⟨congrArg (Value.int .i64) (by first | omega | (dsimp only; omega)), rfl⟩, ?_⟩)
  refine Zl (vx := Iv (i : Nat)) (vy := Iv 0) rfl rfl (.bool false) rfl rfl (Zfr (by omega)) ?_
  refine Zd (.bool false) (Ze (Ze (Ze (Ze (Ze (Ze (Ze (Ze (Zk (.bool false) (Zk (.bool false) ?_))))))))))
  refine Zdc (Zb2 [[], [0], [0, 1], [0, 1, 2], [0, 1, 2, 3], [0, 1, 2, 3, 4], [0, 1, 2, 3, 4, 5], [0, 1, 2, 3, 4, 5, 6], [0, 1, 2, 3, 4, 5, 6], [0, 1, 2, 3, 4, 5, 6, 8], [0, 1, 2, 3, 4, 5, 6, 7, 8, 9], [0, 1, 2, 3, 4, 5, 6, 7, 8, 9, 10], [0, 1, 2, 3, 4, 5, 6], [0, 1, 2, 3, 4, 5, 6, 7, 8, 9, 10, 11, 12], [0, 1, 2, 3, 4, 5, 6, 7, 8, 9, 10, 11, 12, 13], [0, 1, 2, 3, 4, 5, 6, 7, 8, 9, 10, 11, 12, 13, 14], [0, 1, 2, 3, 4, 5, 6, 7, 8, 9, 10, 11, 12, 13, 14, 15]] (by kernel_rfl) (by kernel_rfl)) ?_
  refine Zc (Zu rfl (Zz (Z7 (Zc (Zg ?_)))))
  refine Zl (vx := Iv (i : Nat)) (vy := Iv 1) rfl rfl (Iv ((i : Nat) + 1)) rfl rfl (Zak (by omega) (by omega) (by omega)) ?_
  refine Zd (Iv ((i : Nat) + 1)) (Za ?_)
  refine Zag ⟨(i + 1), ⟨fun j hj => by rcases Nat.lt_or_ge j i with h | h; exact hR j h; obtain rfl : j = i := (by omega); exact ⟨Zkx (by omega), fun q => by first | omega | exact Zlo.1 (by omega)⟩, by omega⟩, by show n - (i + 1) < n - i; omega, ?_⟩
  refine Zaj (n := 1) rfl ?_ (by kernel_rfl) (by kernel_rfl)
  repeat (first | exact trivial | refine ⟨.inl rfl, ?_⟩ | refine ⟨.inr ⟨rfl, rfl⟩, ?_⟩ | refine ⟨.inr ⟨congrArg (Value.int .i64) (by first | omega | (dsimp only; omega)), rfl⟩, ?_⟩)
  refine Zl (vx := Iv (i : Nat)) (vy := Iv (n : Nat)) rfl rfl (.bool false) rfl rfl (Zcd (by omega)) ?_
  refine Za (Zc (Zf (Zu rfl (Zbm (Zaq (Zax (Zav rfl (Zc (Zf (Zg (Zb (Iv 0) (Za (Zc (Zr (Zt ?_)))))))))))))))
  rw [show Zja l = 0 from if_pos (fun j hj => hR j (by omega))]
  exact Zm (v := Iv 0) rfl rfl rfl (by kernel_rfl) rfl
end Go.Flat
