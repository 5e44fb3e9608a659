/- Walks. -/
import Derived.Test.YtlnggiomppkjmaaDoorP1
set_option linter.unusedVariables false
set_option linter.unusedSimpArgs false
set_option maxRecDepth 20000
namespace Go.Flat
open Go.Proofs
variable {G : Glob}
def Zcm (x y : Int) : Int := if x < y then -1 else if y < x then 1 else 0
def orL (l : List Int) : Int := (l.find? (fun x => x != 0)).getD 0
theorem Z14 {l : List Int} : ∀ {i : Nat}, (∀ j, j < i → l.getD j default = 0) → i < l.length → l.getD i default ≠ 0 → orL l = l.getD i default := by
 induction l with
 | nil => intro i _ h; simp at h
 | cons x l ih =>
  intro i h1 h2 h3
  cases i with
  | zero =>
   have h3' : x ≠ 0 := h3
   show orL (x :: l) = x
   unfold orL
   rw [List.find?_cons_of_pos (by simpa using h3')]; rfl
  | succ i =>
   have hx : x = 0 := h1 0 (by omega)
   subst hx
   show orL (0 :: l) = l.getD i default
   rw [← ih (fun j hj => h1 (j + 1) (by omega)) (by simpa using h2) h3]
   unfold orL
   rw [List.find?_cons_of_neg (by simp)]
theorem Zzr {l : List Int} (h : ∀ j, j < l.length → l.getD j default = 0) : orL l = 0 := by
 unfold orL
 rw [List.find?_eq_none.2 ?_]
 ·rfl
 ·intro x hx
  obtain ⟨i, hi, rfl⟩ := List.getElem_of_mem hx
  have := h i hi
  rw [List.getD_eq_getElem?_getD, List.getElem?_eq_getElem hi] at this
  simpa using this
def Zsp (a b : Claim) : Int := orL [Zcm a.region b.region, Zcm a.epoch b.epoch]
def Zqf (a b : Claim) : Prop := a.region < b.region ∨ (a.region = b.region ∧ a.epoch < b.epoch)
instance (a b : Claim) : Decidable (Zqf a b) := inferInstanceAs (Decidable (_ ∨ _))
theorem Z15 (a b : Claim) : Zsp a b = if Zcm a.region b.region ≠ 0 then Zcm a.region b.region else Zcm a.epoch b.epoch := by
 unfold Zsp orL
 by_cases h : Zcm a.region b.region = 0
 ·rw [List.find?_cons_of_neg (by simp [h]), if_neg (by simp [h])]
  by_cases h2 : Zcm a.epoch b.epoch = 0
  ·rw [List.find?_cons_of_neg (by simp [h2]), h2]; rfl
  ·rw [List.find?_cons_of_pos (by simpa using h2)]; rfl
 ·rw [List.find?_cons_of_pos (by simpa using h), if_pos h]; rfl
theorem Zlb {a b : Claim} : Zsp a b < 0 ↔ Zqf a b := by
 rw [Z15]; unfold Zcm Zqf
 constructor
 ·intro h; repeat (first | omega | split at h)
 ·intro h; repeat (first | omega | split)
def okC (l : List Claim) (i : Nat) : Prop := Zdb (l.getD i default) ∧ (0 < i → Zqf (l.getD (i - 1) default) (l.getD i default))
def Zlf (l : List Claim) : Prop := ∀ i, i < l.length → okC l i
instance (l : List Claim) (i : Nat) : Decidable (okC l i) := inferInstanceAs (Decidable (_ ∧ _))
instance (l : List Claim) : Decidable (Zlf l) := inferInstanceAs (Decidable (∀ i, i < l.length → okC l i))
def Zi3 (l : List Claim) : Int := if Zlf l then 0 else 110
theorem Zpf {l : List Claim} (h : Zi3 l = 0) : Zlf l := by
 unfold Zi3 at h
 split at h
 ·assumption
 ·omega
theorem Ze2 {l : List Claim} (h : ¬ Zi3 l = 0) : ¬ Zlf l := fun q => h (if_pos q)
def Z4i (l m : List Claim) : Bool := decide (l.length = m.length) && (List.range l.length).all fun i => Zdm (l.getD i default) (m.getD i default)
theorem Zsc (x : Int) : Z4 Tryd.prog G 46 [Iv x] [] (.bool false) [] := by
 refine Zbd (fn := Tryd.f46) (nt := 6) rfl rfl rfl rfl ?_
 refine Ze (Zg (Zc (.bool false) (Za (Zb (Ze (Zg (Zd (Iv x) (Zd (Iv x) ?_))))))))
 refine Zl (vx := Iv x) (vy := Iv x) rfl rfl (.bool false) rfl rfl (Ze3 (by omega)) ?_
 refine Zc (.bool false) (Za (Zb (Zr (Zs ?_))))
 exact Zk (v := .bool false) rfl rfl rfl (by kernel_rfl) rfl
theorem Zh5 (x y : Int) : Z4 Tryd.prog G 26 [Iv x, Iv y] [] (Iv (Zcm x y)) [] := by
 refine Zbd (fn := Tryd.f26) (nt := 20) rfl rfl rfl rfl ?_
 refine Ze (Zg (Zc (Iv 0) (Za (Zb (Ze (Zg (Zd (Iv x) ?_)))))))
 refine Zq (Zsc (G := G) x) (vals := [Iv x]) (res' := .bool false) rfl rfl rfl rfl rfl rfl ?_
 refine Zc (.bool false) (Za (Zb (Ze (Zg (Zd (Iv y) ?_)))))
 refine Zq (Zsc (G := G) y) (vals := [Iv y]) (res' := .bool false) rfl rfl rfl rfl rfl rfl ?_
 refine Zc (.bool false) (Za (Zb (Ze (Ze (Zg (Zd (.bool false) (Za (Zb (Zt rfl (Zx (Zb (Ze (Ze (Zg (Zd (.bool false) (Za (Zb (Zt rfl (Zx (Zb (Ze (Ze (Zg (Zd (Iv x) (Zd (Iv y) ?_)))))))))))))))))))))))))
 by_cases h1 : x < y
 refine Zl (vx := Iv x) (vy := Iv y) rfl rfl (.bool true) rfl rfl (Zc0 (by omega)) ?_
 refine Za (Zb (Zy rfl (Ze (Zg (Zc (Iv (-1)) (Za (Zb (Zr (Z3 (Zs ?_))))))))))
 rw [show Zcm x y = -1 from by unfold Zcm; split <;> (try split) <;> omega]
 exact Zk (v := Iv (-1)) rfl rfl rfl (by kernel_rfl) rfl
 refine Zl (vx := Iv x) (vy := Iv y) rfl rfl (.bool false) rfl rfl (Zct (by omega)) ?_
 refine Za (Zb (Zt rfl (Zx (Zb (Ze (Ze (Zg (Zd (Iv x) (Zd (Iv y) ?_)))))))))
 by_cases h2 : y < x
 refine Zl (vx := Iv x) (vy := Iv y) rfl rfl (.bool true) rfl rfl (Zgu (by omega)) ?_
 refine Za (Zb (Zy rfl (Ze (Zg (Zc (Iv 1) (Za (Zb (Zr (Z3 (Zs ?_))))))))))
 rw [show Zcm x y = 1 from by unfold Zcm; split <;> (try split) <;> omega]
 exact Zk (v := Iv 1) rfl rfl rfl (by kernel_rfl) rfl
 refine Zl (vx := Iv x) (vy := Iv y) rfl rfl (.bool false) rfl rfl (Zgt (by omega)) ?_
 refine Za (Zb (Zt rfl (Zx (Zb (Ze (Zg (Zc (Iv 0) (Za (Zb (Zr (Zs ?_)))))))))))
 rw [show Zcm x y = 0 from by unfold Zcm; split <;> (try split) <;> omega]
 exact Zk (v := Iv 0) rfl rfl rfl (by kernel_rfl) rfl
theorem Z2r (l : List Int) (n c : Nat) (hn : l.length = n) (hc : n ≤ c) (hb : n ≤ 1048576) : Z4 Tryd.prog G 25 [slv 0 0 n c] [rwR Zd1 l] (Iv (orL l)) [rwR Zd1 l] := by
  refine Zbd (fn := Tryd.f25) (nt := 18) rfl rfl rfl rfl ?_
  refine Ze (Zg (Zc (Iv 0) (Za (Zb (Ze (Zg (Zc (Iv 0) (Za (Zb (Ze (Ze (Zg (Zd (slv 0 0 n c) (Zba (p := slv 0 0 n c) (v := Iv (n : Nat)) (Zd (Iv 0) (Za (Zb (Z7 ?_))))))))))))))))))
  refine Zb2 (fun i : Nat => [slv 0 0 n c, dead, dead, Iv 0, dead, dead, slv 0 0 n c, Iv (n : Nat), Iv (i : Nat)]) (fun i : Nat => [rwR Zd1 l]) (fun i : Nat => (∀ j, j < i → l.getD j default = 0) ∧ i ≤ n) (fun i : Nat => n - i) 0 ⟨fun _ h => absurd h (by omega), by omega⟩ ?_ ?_
  · refine Zah (n := 1) rfl ?_ (by kernel_rfl) (by kernel_rfl)
    repeat (first | exact trivial | refine ⟨.inl rfl, ?_⟩ | refine ⟨.inr ⟨rfl, rfl⟩, ?_⟩ | refine ⟨.inr ⟨congrArg (Value.int .i64) (by first | omega | (dsimp only; omega)), rfl⟩, ?_⟩)
  rintro i ⟨hR, hi⟩
  refine Ze (Zg ?_)
  by_cases h1 : (i : Nat) < (n : Nat)
  refine Zl (vx := Iv (i : Nat)) (vy := Iv (n : Nat)) rfl rfl (.bool true) rfl rfl (Zc0 (by omega)) ?_
  refine Za (Zb (Ze (Zy rfl (Zx (Zb (Ze (Z7 (Ze (Zg ?_)))))))))
  refine Zb1 (b := 0) (o := 0) (j := i) (m := n) (c := c) (sz := 1) (i := (i : Nat)) (k := .i64) rfl rfl rfl rfl rfl (by omega) (by omega) (by omega) ?_
  refine Zaj (p := pt 0 i) (v := Iv (l.getD i default)) rfl rfl rfl (Zk6 (m := 1) Zd1 (l := l) (i := i) rfl rfl rfl rfl (by have := hn; omega) (by omega) rfl rfl) ?_
  refine Zc (Iv (l.getD i default)) (Za (Zb (Ze (Zg (Zd (Iv (l.getD i default)) (Zd (Iv 0) ?_))))))
  by_cases h2 : (l.getD i default) ≠ 0
  refine Zl (vx := Iv (l.getD i default)) (vy := Iv 0) rfl rfl (.bool true) rfl rfl (Zfc (by omega)) ?_
  refine Za (Zb (Zy rfl (Ze (Zg (Zd (Iv (l.getD i default)) (Zc (Iv (l.getD i default)) (Za (Zb (Zr (Zbg (Z3 (Zdu (Zbg (Z3 (Zs ?_)))))))))))))))
  rw [show orL l = l.getD i default from Z14 hR (by omega) (by omega)]
  exact Zk (v := Iv (l.getD i default)) rfl rfl rfl (by kernel_rfl) rfl
  refine Zl (vx := Iv (l.getD i default)) (vy := Iv 0) rfl rfl (.bool false) rfl rfl (Ze3 (by omega)) ?_
  refine Za (Zb (Zt rfl (Zx (Z8 (Zb (Zg ?_))))))
  refine Zl (vx := Iv (i : Nat)) (vy := Iv 1) rfl rfl (Iv ((i : Nat) + 1)) rfl rfl (Zan (by omega) (by omega) (by omega)) ?_
  refine Zd (Iv ((i : Nat) + 1)) (Za ?_)
  refine Zak ⟨(i + 1), ⟨fun j hj => by rcases Nat.lt_or_ge j i with h | h; exact hR j h; obtain rfl : j = i := (by omega); omega, by omega⟩, by show n - (i + 1) < n - i; omega, ?_⟩
  refine Zah (n := 1) rfl ?_ (by kernel_rfl) (by kernel_rfl)
  repeat (first | exact trivial | refine ⟨.inl rfl, ?_⟩ | refine ⟨.inr ⟨rfl, rfl⟩, ?_⟩ | refine ⟨.inr ⟨congrArg (Value.int .i64) (by first | omega | (dsimp only; omega)), rfl⟩, ?_⟩)
  refine Zl (vx := Iv (i : Nat)) (vy := Iv (n : Nat)) rfl rfl (.bool false) rfl rfl (Zct (by omega)) ?_
  refine Za (Zb (Ze (Zt rfl (Zbp (Zau (Za2 (Za1 rfl (Zb (Ze (Zg (Zd (Iv 0) (Zc (Iv 0) (Za (Zb (Zr (Zs ?_))))))))))))))))
  rw [show orL l = 0 from Zzr (fun j hj => hR j (by omega))]
  exact Zk (v := Iv 0) rfl rfl rfl (by kernel_rfl) rfl
theorem Zzs (a b : Claim) : Z4 Tryd.prog G 56 [Zac a, Zac b] [] (Iv (Zsp a b)) [] := by
  refine Zbd (fn := Tryd.f56) (nt := 17) rfl rfl rfl rfl ?_
  refine Zae 3 (H' := [hole, hole, hole]) rfl ?_
  refine Ze (Zg (Zbs (v := Zac a) (b := bxB 36 (Zam a)) (nid := 0) (H' := [bxB 36 (Zam a), hole, hole]) (Zbs (v := Zac b) (b := bxB 36 (Zam b)) (nid := 1) (H' := [bxB 36 (Zam a), bxB 36 (Zam b), hole]) (Zc (Iv 0) (Za (Zb (Ze ?_)))))))
  refine Zgo (by kernel_rfl) ?_
  refine Zi (b := 0) (o := 0) (n := 0) (o' := 0) (Zm (p := pt 0 0) (v := Iv a.region) (Zi (b := 1) (o := 0) (n := 0) (o' := 0) (Zm (p := pt 1 0) (v := Iv b.region) ?_)))
  refine Zq (Zh5 (G := G) a.region b.region) (vals := [Iv a.region, Iv b.region]) (res' := Iv (Zcm a.region b.region)) rfl rfl rfl rfl rfl rfl ?_
  refine Zi (b := 0) (o := 0) (n := 1) (o' := 1) (Zm (p := pt 0 1) (v := Iv a.epoch) (Zi (b := 1) (o := 0) (n := 1) (o' := 1) (Zm (p := pt 1 1) (v := Iv b.epoch) ?_)))
  refine Zq (Zh5 (G := G) a.epoch b.epoch) (vals := [Iv a.epoch, Iv b.epoch]) (res' := Iv (Zcm a.epoch b.epoch)) rfl rfl rfl rfl rfl rfl ?_
  refine Zen (vs := [(0, Iv (Zcm a.region b.region)), (1, Iv (Zcm a.epoch b.epoch))]) (v := slv 2 0 2 2) (blk := rwB Zd1 [(Zcm a.region b.region), (Zcm a.epoch b.epoch)]) (nid := 2) (H' := [bxB 36 (Zam a), bxB 36 (Zam b), rwB Zd1 [(Zcm a.region b.region), (Zcm a.epoch b.epoch)]]) rfl rfl rfl (by kernel_rfl) (by kernel_rfl) ?_
  refine Z0 (e := [some (2, 0)]) (nid := 0) (Z2r (G := G) [(Zcm a.region b.region), (Zcm a.epoch b.epoch)] 2 2 (rfl : _ = 2) (by omega) (by omega)) (vals := [slv 2 0 2 2]) (v := Iv (orL [(Zcm a.region b.region), (Zcm a.epoch b.epoch)])) (H' := [bxB 36 (Zam a), bxB 36 (Zam b), rwB Zd1 [(Zcm a.region b.region), (Zcm a.epoch b.epoch)]]) rfl rfl rfl rfl rfl rfl rfl ⟨⟨⟨rfl, rfl, rfl, by first | omega | exact Nat.le_refl _, by first | omega | exact Nat.le_refl _⟩, trivial⟩, ⟨(Zbq rfl), trivial⟩, rfl, rfl, rfl⟩ rfl (by kernel_rfl) ?_
  refine Zc (Iv (orL [(Zcm a.region b.region), (Zcm a.epoch b.epoch)])) ?_
  refine Zef (Zd8 [[], [0], [], [2], [0, 1, 2, 3], [], [5], [], [7], [0, 1, 2, 3, 4, 5, 6, 7, 8], [0, 1, 2, 3, 4, 5, 6, 7, 8, 9], [0, 1, 2, 3, 4, 5, 6, 7, 8, 9, 10], [0, 1, 2, 3, 4, 5, 6, 7, 8, 9, 10, 11]] (by kernel_rfl) (by kernel_rfl)) ?_
  refine Zb (Zr (Zs ?_))
  exact Zk (v := Iv (orL [(Zcm a.region b.region), (Zcm a.epoch b.epoch)])) rfl rfl rfl (by kernel_rfl) rfl
theorem Zv9 (l : List Claim) (n c : Nat) (hn : l.length = n) (hc : n ≤ c) (hb : n ≤ 1048576) : Z4 Tryd.prog G 44 [slv 0 0 n c] [rwR Zdh l] (Iv (Zi3 l)) [rwR Zdh l] := by
  refine Zbd (fn := Tryd.f44) (nt := 30) rfl rfl rfl rfl ?_
  refine Ze (Zg (Zc (Iv 0) (Za (Zb (Ze (Ze (Zg (Zd (slv 0 0 n c) (Zba (p := slv 0 0 n c) (v := Iv (n : Nat)) (Zd (Iv 0) (Za (Zb (Z7 ?_)))))))))))))
  refine Zb2 (fun i : Nat => [slv 0 0 n c, dead, dead, dead, dead, slv 0 0 n c, Iv (n : Nat), Iv (i : Nat)]) (fun i : Nat => [rwR Zdh l]) (fun i : Nat => (∀ j, j < i → okC l j) ∧ i ≤ n) (fun i : Nat => n - i) 0 ⟨fun _ h => absurd h (by omega), by omega⟩ ?_ ?_
  · refine Zah (n := 1) rfl ?_ (by kernel_rfl) (by kernel_rfl)
    repeat (first | exact trivial | refine ⟨.inl rfl, ?_⟩ | refine ⟨.inr ⟨rfl, rfl⟩, ?_⟩ | refine ⟨.inr ⟨congrArg (Value.int .i64) (by first | omega | (dsimp only; omega)), rfl⟩, ?_⟩)
  rintro i ⟨hR, hi⟩
  refine Zae 2 (H' := [rwR Zdh l, hole, hole]) rfl ?_
  refine Ze (Zg ?_)
  by_cases h1 : (i : Nat) < (n : Nat)
  refine Zl (vx := Iv (i : Nat)) (vy := Iv (n : Nat)) rfl rfl (.bool true) rfl rfl (Zc0 (by omega)) ?_
  refine Za (Zb (Ze (Zy rfl (Zx (Zb (Ze (Z7 (Ze (Zg (Zd (Iv (i : Nat)) ?_))))))))))
  refine Zb1 (b := 0) (o := 0) (j := i * 36) (m := n) (c := c) (sz := 36) (i := (i : Nat)) (k := .i64) rfl rfl rfl rfl rfl (by omega) (by omega) (by omega) ?_
  refine Zaj (p := pt 0 (i * 36)) (v := Zac (l.getD i default)) rfl rfl rfl (Zhf (n := 0) (m := 36) Zdh rfl rfl rfl rfl (by have := hn; omega) (by omega)) ?_
  refine Zaw (b := bxB 36 (Zam (⟨0, 0, 0, 0, dz⟩ : Claim))) (nid := 1) (H' := [rwR Zdh l, bxB 36 (Zam (⟨0, 0, 0, 0, dz⟩ : Claim)), hole]) (Zc (Iv (i : Nat)) (Zaa (p := pt 1 0) (v := Zac (l.getD i default)) (b := 1) (blk := bxB 36 (Zam (l.getD i default))) (H' := [rwR Zdh l, bxB 36 (Zam (l.getD i default)), hole]) (Za (Zb (Ze ?_)))))
  refine Zha (by kernel_rfl) ?_
  refine Zm (p := pt 1 0) (v := Zac (l.getD i default)) ?_
  refine Zq (Zfv (G := G) (l.getD i default)) (vals := [Zac (l.getD i default)]) (res' := Iv (Zc9 (l.getD i default))) rfl rfl rfl rfl rfl rfl ?_
  by_cases h2 : (Zc9 (l.getD i default)) ≠ 0
  refine Zl (vx := Iv (Zc9 (l.getD i default))) (vy := Iv 0) rfl rfl (.bool true) rfl rfl (Zfc (by omega)) ?_
  refine Zd (.bool true) (Zf (Zf (Zf (Zf (Zf (Zf (Zf (Zf (Zf (Zf (Zf (Zf (Zj (.bool true) ?_)))))))))))))
  refine Zet (Zc1 [[], [0], [0, 1], [0, 1, 2], [0, 1, 2, 3], [0, 1, 2, 3, 4], [0, 1, 2, 3, 4, 5], [0, 1, 2, 3, 4, 5, 6], [0, 1, 2, 3, 4, 5, 6], [0, 1, 2, 3, 4, 5, 6, 8], [0, 1, 2, 3, 4, 5, 6, 7, 8, 9], [0, 1, 2, 3, 4, 5, 6, 7, 8, 9, 10], [0, 1, 2, 3, 4, 5, 6], [0, 1, 2, 3, 4, 5, 6, 7, 8, 9, 10, 11, 12], [0, 1, 2, 3, 4, 5, 6, 7, 8, 9, 10, 11, 12, 13], [0, 1, 2, 3, 4, 5, 6, 7, 8, 9, 10, 11, 12, 13, 14], [0, 1, 2, 3, 4, 5, 6, 7, 8, 9, 10, 11, 12, 13, 14, 15]] (by kernel_rfl) (by kernel_rfl)) ?_
  refine Zb (Zy rfl (Ze (Zg (Zc (Iv 110) (Za (Zb (Zr (Zbg (Z3 (Zdu (Zbg (Z3 (Zs ?_)))))))))))))
  rw [show Zi3 l = 110 from if_neg (fun q => by have q1 := q i (by omega); first | exact Zks (by omega) q1.1 | (have q2 := Zlb.2 (q1.2 (by omega)); omega))]
  exact Zk (v := Iv 110) rfl rfl rfl (by kernel_rfl) rfl
  refine Zl (vx := Iv (Zc9 (l.getD i default))) (vy := Iv 0) rfl rfl (.bool false) rfl rfl (Ze3 (by omega)) ?_
  refine Zd (.bool false) (Zd (Iv (i : Nat)) ?_)
  by_cases h3 : 0 < (i : Nat)
  refine Zl (vx := Iv (i : Nat)) (vy := Iv 0) rfl rfl (.bool true) rfl rfl (Zgu (by omega)) ?_
  refine Zd (.bool true) (Zd (slv 0 0 n c) (Zd (Iv (i : Nat)) ?_))
  refine Zl (vx := Iv (i : Nat)) (vy := Iv 1) rfl rfl (Iv ((i : Nat) - 1)) rfl rfl (Zg8 (by omega) (by omega) (by omega)) ?_
  refine Zb1 (b := 0) (o := 0) (j := (i - 1) * 36) (m := n) (c := c) (sz := 36) (i := (i : Nat) - 1) (k := .i64) rfl rfl rfl rfl rfl (by omega) (by omega) (by omega) ?_
  refine Zaj (p := pt 0 ((i - 1) * 36)) (v := Zac (l.getD (i - 1) default)) rfl rfl rfl (Zhf (n := 0) (m := 36) Zdh rfl rfl rfl rfl (by have := hn; omega) (by omega)) ?_
  refine Zm (p := pt 1 0) (v := Zac (l.getD i default)) ?_
  refine Zq (Zzs (G := G) (l.getD (i - 1) default) (l.getD i default)) (vals := [Zac (l.getD (i - 1) default), Zac (l.getD i default)]) (res' := Iv (Zsp (l.getD (i - 1) default) (l.getD i default))) rfl rfl rfl rfl rfl rfl ?_
  by_cases h4 : 0 ≤ (Zsp (l.getD (i - 1) default) (l.getD i default))
  refine Zl (vx := Iv (Zsp (l.getD (i - 1) default) (l.getD i default))) (vy := Iv 0) rfl rfl (.bool true) rfl rfl (Znx (by omega)) ?_
  refine Zj (.bool true) (Zj (.bool true) ?_)
  refine Zet (Zc1 [[], [0], [0, 1], [0, 1, 2], [0, 1, 2, 3], [0, 1, 2, 3, 4], [0, 1, 2, 3, 4, 5], [0, 1, 2, 3, 4, 5, 6], [0, 1, 2, 3, 4, 5, 6], [0, 1, 2, 3, 4, 5, 6, 8], [0, 1, 2, 3, 4, 5, 6, 7, 8, 9], [0, 1, 2, 3, 4, 5, 6, 7, 8, 9, 10], [0, 1, 2, 3, 4, 5, 6], [0, 1, 2, 3, 4, 5, 6, 7, 8, 9, 10, 11, 12], [0, 1, 2, 3, 4, 5, 6, 7, 8, 9, 10, 11, 12, 13], [0, 1, 2, 3, 4, 5, 6, 7, 8, 9, 10, 11, 12, 13, 14], [0, 1, 2, 3, 4, 5, 6, 7, 8, 9, 10, 11, 12, 13, 14, 15]] (by kernel_rfl) (by kernel_rfl)) ?_
  refine Zb (Zy rfl (Ze (Zg (Zc (Iv 110) (Za (Zb (Zr (Zbg (Z3 (Zdu (Zbg (Z3 (Zs ?_)))))))))))))
  rw [show Zi3 l = 110 from if_neg (fun q => by have q1 := q i (by omega); first | exact Zks (by omega) q1.1 | (have q2 := Zlb.2 (q1.2 (by omega)); omega))]
  exact Zk (v := Iv 110) rfl rfl rfl (by kernel_rfl) rfl
  refine Zl (vx := Iv (Zsp (l.getD (i - 1) default) (l.getD i default))) (vy := Iv 0) rfl rfl (.bool false) rfl rfl (Znw (by omega)) ?_
  refine Zj (.bool false) (Zj (.bool false) ?_)
  refine Zet (Zc1 [[], [0], [0, 1], [0, 1, 2], [0, 1, 2, 3], [0, 1, 2, 3, 4], [0, 1, 2, 3, 4, 5], [0, 1, 2, 3, 4, 5, 6], [0, 1, 2, 3, 4, 5, 6], [0, 1, 2, 3, 4, 5, 6, 8], [0, 1, 2, 3, 4, 5, 6, 7, 8, 9], [0, 1, 2, 3, 4, 5, 6, 7, 8, 9, 10], [0, 1, 2, 3, 4, 5, 6], [0, 1, 2, 3, 4, 5, 6, 7, 8, 9, 10, 11, 12], [0, 1, 2, 3, 4, 5, 6, 7, 8, 9, 10, 11, 12, 13], [0, 1, 2, 3, 4, 5, 6, 7, 8, 9, 10, 11, 12, 13, 14], [0, 1, 2, 3, 4, 5, 6, 7, 8, 9, 10, 11, 12, 13, 14, 15]] (by kernel_rfl) (by kernel_rfl)) ?_
  refine Zb (Zt rfl (Zx (Z8 (Zb (Zg ?_)))))
  refine Zl (vx := Iv (i : Nat)) (vy := Iv 1) rfl rfl (Iv ((i : Nat) + 1)) rfl rfl (Zan (by omega) (by omega) (by omega)) ?_
  refine Zd (Iv ((i : Nat) + 1)) (Za ?_)
  refine Zak ⟨(i + 1), ⟨fun j hj => by rcases Nat.lt_or_ge j i with h | h; exact hR j h; obtain rfl : j = i := (by omega); exact ⟨Zi1 (by omega), fun q => by first | omega | exact Zlb.1 (by omega)⟩, by omega⟩, by show n - (i + 1) < n - i; omega, ?_⟩
  refine Zah (n := 1) rfl ?_ (by kernel_rfl) (by kernel_rfl)
  repeat (first | exact trivial | refine ⟨.inl rfl, ?_⟩ | refine ⟨.inr ⟨rfl, rfl⟩, ?_⟩ | refine ⟨.inr ⟨congrArg (Value.int .i64) (by first | omega | (dsimp only; omega)), rfl⟩, ?_⟩)
  refine Zl (vx := Iv (i : Nat)) (vy := Iv 0) rfl rfl (.bool false) rfl rfl (Zgt (by omega)) ?_
  refine Zd (.bool false) (Zf (Zf (Zf (Zf (Zf (Zf (Zf (Zf (Zj (.bool false) (Zj (.bool false) ?_))))))))))
  refine Zet (Zc1 [[], [0], [0, 1], [0, 1, 2], [0, 1, 2, 3], [0, 1, 2, 3, 4], [0, 1, 2, 3, 4, 5], [0, 1, 2, 3, 4, 5, 6], [0, 1, 2, 3, 4, 5, 6], [0, 1, 2, 3, 4, 5, 6, 8], [0, 1, 2, 3, 4, 5, 6, 7, 8, 9], [0, 1, 2, 3, 4, 5, 6, 7, 8, 9, 10], [0, 1, 2, 3, 4, 5, 6], [0, 1, 2, 3, 4, 5, 6, 7, 8, 9, 10, 11, 12], [0, 1, 2, 3, 4, 5, 6, 7, 8, 9, 10, 11, 12, 13], [0, 1, 2, 3, 4, 5, 6, 7, 8, 9, 10, 11, 12, 13, 14], [0, 1, 2, 3, 4, 5, 6, 7, 8, 9, 10, 11, 12, 13, 14, 15]] (by kernel_rfl) (by kernel_rfl)) ?_
  refine Zb (Zt rfl (Zx (Z8 (Zb (Zg ?_)))))
  refine Zl (vx := Iv (i : Nat)) (vy := Iv 1) rfl rfl (Iv ((i : Nat) + 1)) rfl rfl (Zan (by omega) (by omega) (by omega)) ?_
  refine Zd (Iv ((i : Nat) + 1)) (Za ?_)
  refine Zak ⟨(i + 1), ⟨fun j hj => by rcases Nat.lt_or_ge j i with h | h; exact hR j h; obtain rfl : j = i := (by omega); exact ⟨Zi1 (by omega), fun q => by first | omega | exact Zlb.1 (by omega)⟩, by omega⟩, by show n - (i + 1) < n - i; omega, ?_⟩
  refine Zah (n := 1) rfl ?_ (by kernel_rfl) (by kernel_rfl)
  repeat (first | exact trivial | refine ⟨.inl rfl, ?_⟩ | refine ⟨.inr ⟨rfl, rfl⟩, ?_⟩ | refine ⟨.inr ⟨congrArg (Value.int .i64) (by first | omega | (dsimp only; omega)), rfl⟩, ?_⟩)
  refine Zl (vx := Iv (i : Nat)) (vy := Iv (n : Nat)) rfl rfl (.bool false) rfl rfl (Zct (by omega)) ?_
  refine Za (Zb (Ze (Zt rfl (Zbp (Zau (Za2 (Za1 rfl (Zb (Ze (Zg (Zc (Iv 0) (Za (Zb (Zr (Zs ?_)))))))))))))))
  rw [show Zi3 l = 0 from if_pos (fun j hj => hR j (by omega))]
  exact Zk (v := Iv 0) rfl rfl rfl (by kernel_rfl) rfl
end Go.Flat
