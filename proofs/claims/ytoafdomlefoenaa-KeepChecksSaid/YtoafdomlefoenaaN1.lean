/- Walks. -/
import Derived.Test.YtoafdomlefoenaaE4
import Derived.Test.YtoafdomlefoenaaFlatJ
set_option linter.unusedVariables false
set_option linter.unusedSimpArgs false
set_option maxRecDepth 20000
namespace Go.Flat
open Go.Proofs
variable {G : Glob}
def Zpt : Cod Int := ⟨fun z => [.int .i64 z], 1, fun _ => rfl, by decide⟩
def Zd0 (x y : Int) : Int := if x < y then -1 else if y < x then 1 else 0
def orL (l : List Int) : Int := (l.find? (fun x => x != 0)).getD 0
theorem Zuj {l : List Int} : ∀ {i : Nat}, (∀ j, j < i → l.getD j default = 0) → i < l.length → l.getD i default ≠ 0 → orL l = l.getD i default := by
 induction l with
 | nil => intro i _ h; simp at h
 | cons x l ih =>
  intro i h1 h2 h3
  cases i with
  | zero =>
   have h3' : x ≠ 0 := h3
   show orL (x :: l) = x
   unfold orL
   rw [List.find?_cons_of_pos (by simpa using h3')]; rfl
  | succ i =>
   have hx : x = 0 := h1 0 (by omega)
   subst hx
   show orL (0 :: l) = l.getD i default
   rw [← ih (fun j hj => h1 (j + 1) (by omega)) (by simpa using h2) h3]
   unfold orL
   rw [List.find?_cons_of_neg (by simp)]
theorem Zt1 {l : List Int} (h : ∀ j, j < l.length → l.getD j default = 0) : orL l = 0 := by
 unfold orL
 rw [List.find?_eq_none.2 ?_]
 ·rfl
 ·intro x hx
  obtain ⟨i, hi, rfl⟩ := List.getElem_of_mem hx
  have := h i hi
  rw [List.getD_eq_getElem?_getD, List.getElem?_eq_getElem hi] at this
  simpa using this
def Zpe (a b : Claim) : Int := orL [Zd0 a.region b.region, Zd0 a.epoch b.epoch]
def Zdm (a b : Claim) : Prop := a.region < b.region ∨ (a.region = b.region ∧ a.epoch < b.epoch)
instance (a b : Claim) : Decidable (Zdm a b) := inferInstanceAs (Decidable (_ ∨ _))
theorem Zus (a b : Claim) : Zpe a b = if Zd0 a.region b.region ≠ 0 then Zd0 a.region b.region else Zd0 a.epoch b.epoch := by
 unfold Zpe orL
 by_cases h : Zd0 a.region b.region = 0
 ·rw [List.find?_cons_of_neg (by simp [h]), if_neg (by simp [h])]
  by_cases h2 : Zd0 a.epoch b.epoch = 0
  ·rw [List.find?_cons_of_neg (by simp [h2]), h2]; rfl
  ·rw [List.find?_cons_of_pos (by simpa using h2)]; rfl
 ·rw [List.find?_cons_of_pos (by simpa using h), if_pos h]; rfl
theorem Zjc {a b : Claim} : Zpe a b < 0 ↔ Zdm a b := by
 rw [Zus]; unfold Zd0 Zdm
 constructor
 ·intro h; repeat (first | omega | split at h)
 ·intro h; repeat (first | omega | split)
def okC (l : List Claim) (i : Nat) : Prop := Zaw (l.getD i default) ∧ (0 < i → Zdm (l.getD (i - 1) default) (l.getD i default))
def Zdu (l : List Claim) : Prop := ∀ i, i < l.length → okC l i
instance (l : List Claim) (i : Nat) : Decidable (okC l i) := inferInstanceAs (Decidable (_ ∧ _))
instance (l : List Claim) : Decidable (Zdu l) := inferInstanceAs (Decidable (∀ i, i < l.length → okC l i))
def Ze1 (l : List Claim) : Int := if Zdu l then 0 else 110
theorem Zjr {l : List Claim} (h : Ze1 l = 0) : Zdu l := by
 unfold Ze1 at h
 split at h
 ·assumption
 ·omega
theorem Zdv {l : List Claim} (h : ¬ Ze1 l = 0) : ¬ Zdu l := fun q => h (if_pos q)
def Zcr (l m : List Claim) : Bool := decide (l.length = m.length) && (List.range l.length).all fun i => Zw (l.getD i default) (m.getD i default)
theorem Zpc {l m : List Claim} (h : l.length = m.length) (hR : ∀ j, j < l.length → Zw (l.getD j default) (m.getD j default) = true) : Zcr l m = true := by
 unfold Zcr
 rw [decide_eq_true h, Bool.true_and, List.all_eq_true]
 intro j hj
 exact hR j (List.mem_range.1 hj)
theorem Zk0 {l m : List Claim} (h : l.length ≠ m.length) : Zcr l m = false := by
 unfold Zcr; rw [decide_eq_false h]; rfl
theorem Zpp {l m : List Claim} (i : Nat) (hi : i < l.length) (h : Zw (l.getD i default) (m.getD i default) = false) : Zcr l m = false := by
  unfold Zcr
  cases hq : (List.range l.length).all fun i => Zw (l.getD i default) (m.getD i default) with
  | false => simp
  | true => rw [List.all_eq_true] at hq; have := hq i (List.mem_range.2 hi); rw [h] at this; cases this
theorem Zn8 (l : List Claim) : Zcr l l = true := Zpc rfl (fun _ _ => Zaq _)
theorem Zom (x : Int) : Zak Try.prog G 68 [Iv x] [] (.bool false) [] := by
 refine Zb5 (fn := Try.f68) (nt := 6) rfl rfl rfl rfl ?_
 refine Zk (Zm (Zd rfl rfl (.bool false) rfl (Zb (Zc (Zk (Zm (Zf rfl rfl (Iv x) rfl (Zf rfl rfl (Iv x) rfl ?_))))))))
 refine Zn (vx := Iv x) (vy := Iv x) rfl rfl (.bool false) rfl rfl (Zd4 (by omega)) ?_
 refine Zd rfl rfl (.bool false) rfl (Zb (Zc (Zq (Zo ?_))))
 exact Zi (v := .bool false) rfl rfl rfl (by kernel_rfl) rfl
theorem Zlk (x y : Int) : Zak Try.prog G 61 [Iv x, Iv y] [] (Iv (Zd0 x y)) [] := by
 refine Zb5 (fn := Try.f61) (nt := 20) rfl rfl rfl rfl ?_
 refine Zk (Zm (Zd rfl rfl (Iv 0) rfl (Zb (Zc (Zk (Zm (Zf rfl rfl (Iv x) rfl ?_)))))))
 refine Zp (Zom (G := G) x) (vals := [Iv x]) (res' := .bool false) rfl rfl rfl rfl rfl rfl ?_
 refine Zd rfl rfl (.bool false) rfl (Zb (Zc (Zk (Zm (Zf rfl rfl (Iv y) rfl ?_)))))
 refine Zp (Zom (G := G) y) (vals := [Iv y]) (res' := .bool false) rfl rfl rfl rfl rfl rfl ?_
 refine Zd rfl rfl (.bool false) rfl (Zb (Zc (Zk (Zk (Zm (Zf rfl rfl (.bool false) rfl (Zb (Zc (Zx rfl (Z8 (Zc (Zk (Zk (Zm (Zf rfl rfl (.bool false) rfl (Zb (Zc (Zx rfl (Z8 (Zc (Zk (Zk (Zm (Zf rfl rfl (Iv x) rfl (Zf rfl rfl (Iv y) rfl ?_)))))))))))))))))))))))))
 by_cases h1 : x < y
 refine Zn (vx := Iv x) (vy := Iv y) rfl rfl (.bool true) rfl rfl (Zea (by omega)) ?_
 refine Zb (Zc (Z4 rfl (Zk (Zm (Zd rfl rfl (Iv (-1)) rfl (Zb (Zc (Zq (Zv (Zo ?_))))))))))
 rw [show Zd0 x y = -1 from by unfold Zd0; split <;> (try split) <;> omega]
 exact Zi (v := Iv (-1)) rfl rfl rfl (by kernel_rfl) rfl
 refine Zn (vx := Iv x) (vy := Iv y) rfl rfl (.bool false) rfl rfl (Zeb (by omega)) ?_
 refine Zb (Zc (Zx rfl (Z8 (Zc (Zk (Zk (Zm (Zf rfl rfl (Iv x) rfl (Zf rfl rfl (Iv y) rfl ?_)))))))))
 by_cases h2 : y < x
 refine Zn (vx := Iv x) (vy := Iv y) rfl rfl (.bool true) rfl rfl (Zeq (by omega)) ?_
 refine Zb (Zc (Z4 rfl (Zk (Zm (Zd rfl rfl (Iv 1) rfl (Zb (Zc (Zq (Zv (Zo ?_))))))))))
 rw [show Zd0 x y = 1 from by unfold Zd0; split <;> (try split) <;> omega]
 exact Zi (v := Iv 1) rfl rfl rfl (by kernel_rfl) rfl
 refine Zn (vx := Iv x) (vy := Iv y) rfl rfl (.bool false) rfl rfl (Zem (by omega)) ?_
 refine Zb (Zc (Zx rfl (Z8 (Zc (Zk (Zm (Zd rfl rfl (Iv 0) rfl (Zb (Zc (Zq (Zo ?_)))))))))))
 rw [show Zd0 x y = 0 from by unfold Zd0; split <;> (try split) <;> omega]
 exact Zi (v := Iv 0) rfl rfl rfl (by kernel_rfl) rfl
theorem Zwx (l : List Int) (n c : Nat) (hn : l.length = n) (hc : n ≤ c) (hb : n ≤ 1048576) : Zak Try.prog G 60 [slv 0 0 n c] [rwR Zpt l] (Iv (orL l)) [rwR Zpt l] := by
  refine Zb5 (fn := Try.f60) (nt := 18) rfl rfl rfl rfl ?_
  refine Zk (Zm (Zd rfl rfl (Iv 0) rfl (Zb (Zc (Zk (Zm (Zd rfl rfl (Iv 0) rfl (Zb (Zc (Zk (Zk (Zm (Zf rfl rfl (slv 0 0 n c) rfl ?_)))))))))))))
  refine Zci (p := slv 0 0 n c) (v := Iv (n : Nat)) rfl rfl rfl rfl ?_
  refine Zf rfl rfl (Iv 0) rfl (Zb (Zc (Zbm ?_)))
  refine Zex (fun i : Nat => [slv 0 0 n c, dead, dead, Iv 0, dead, dead, slv 0 0 n c, Iv (n : Nat), Iv (i : Nat)]) (fun i : Nat => [rwR Zpt l]) (fun i : Nat => (∀ j, j < i → l.getD j default = 0) ∧ i ≤ n) (fun i : Nat => n - i) 0 ⟨fun _ h => absurd h (by omega), by omega⟩ ?_ ?_
  · refine Zba (n := 1) rfl ?_ (by kernel_rfl) (by kernel_rfl)
    repeat (first | exact trivial | refine ⟨.inl rfl, ?_⟩ | refine ⟨.inr ⟨rfl, rfl⟩, ?_⟩ | refine ⟨.inr ⟨congrArg (Value.int .i64) (by first | omega | (dsimp only; omega)), rfl⟩, ?_⟩)
  rintro i ⟨hR, hi⟩
  refine Zk (Zm ?_)
  by_cases h1 : (i : Nat) < (n : Nat)
  refine Zn (vx := Iv (i : Nat)) (vy := Iv (n : Nat)) rfl rfl (.bool true) rfl rfl (Zea (by omega)) ?_
  refine Zb (Zc (Zk (Z4 rfl (Z8 (Zc (Zk (Zbm (Zk (Zm ?_)))))))))
  refine Zcq (b := 0) (o := 0) (j := i) (m := n) (c := c) (sz := 1) (i := (i : Nat)) (k := .i64) rfl rfl rfl rfl rfl (by omega) (by omega) (by omega) ?_
  refine Zl (p := pt 0 i) (v := Iv (l.getD i default)) rfl rfl rfl (Zss (m := 1) Zpt (l := l) (i := i) rfl rfl rfl rfl (by have := hn; omega) (by omega) rfl rfl) ?_
  refine Zd rfl rfl (Iv (l.getD i default)) rfl (Zb (Zc (Zk (Zm (Zf rfl rfl (Iv (l.getD i default)) rfl (Zf rfl rfl (Iv 0) rfl ?_))))))
  by_cases h2 : (l.getD i default) ≠ 0
  refine Zn (vx := Iv (l.getD i default)) (vy := Iv 0) rfl rfl (.bool true) rfl rfl (Zed (by omega)) ?_
  refine Zb (Zc (Z4 rfl (Zk (Zm (Zf rfl rfl (Iv (l.getD i default)) rfl (Zd rfl rfl (Iv (l.getD i default)) rfl (Zb (Zc (Zq (Zz (Zv (Zbi (Zz (Zv (Zo ?_)))))))))))))))
  rw [show orL l = l.getD i default from Zuj hR (by omega) (by omega)]
  exact Zi (v := Iv (l.getD i default)) rfl rfl rfl (by kernel_rfl) rfl
  refine Zn (vx := Iv (l.getD i default)) (vy := Iv 0) rfl rfl (.bool false) rfl rfl (Zd4 (by omega)) ?_
  refine Zb (Zc (Zx rfl (Z8 (Z2 (Zc (Zm ?_))))))
  refine Zn (vx := Iv (i : Nat)) (vy := Iv 1) rfl rfl (Iv ((i : Nat) + 1)) rfl rfl (Zcs (by omega) (by omega) (by omega)) ?_
  refine Zf rfl rfl (Iv ((i : Nat) + 1)) rfl (Zb ?_)
  refine Z7 ⟨(i + 1), ⟨fun j hj => by rcases Nat.lt_or_ge j i with h | h; exact hR j h; obtain rfl : j = i := (by omega); omega, by omega⟩, by show n - (i + 1) < n - i; omega, ?_⟩
  refine Zba (n := 1) rfl ?_ (by kernel_rfl) (by kernel_rfl)
  repeat (first | exact trivial | refine ⟨.inl rfl, ?_⟩ | refine ⟨.inr ⟨rfl, rfl⟩, ?_⟩ | refine ⟨.inr ⟨congrArg (Value.int .i64) (by first | omega | (dsimp only; omega)), rfl⟩, ?_⟩)
  refine Zn (vx := Iv (i : Nat)) (vy := Iv (n : Nat)) rfl rfl (.bool false) rfl rfl (Zeb (by omega)) ?_
  refine Zb (Zc (Zk (Zx rfl (Zf9 (Zew (Zde (Zel rfl (Zc (Zk (Zm (Zf rfl rfl (Iv 0) rfl (Zd rfl rfl (Iv 0) rfl (Zb (Zc (Zq (Zo ?_))))))))))))))))
  rw [show orL l = 0 from Zt1 (fun j hj => hR j (by omega))]
  exact Zi (v := Iv 0) rfl rfl rfl (by kernel_rfl) rfl
theorem Ztt (a b : Claim) : Zak Try.prog G 45 [Z3 a, Z3 b] [] (Iv (Zpe a b)) [] := by
  refine Zb5 (fn := Try.f45) (nt := 17) rfl rfl rfl rfl ?_
  refine Za5 3 (H' := [hole, hole, hole]) rfl ?_
  refine Zk (Zm ?_)
  refine Zch (v := Z3 a) (b := bxB 36 (Zs a)) (nid := 0) (H' := [bxB 36 (Zs a), hole, hole]) rfl rfl rfl (by kernel_rfl) (by kernel_rfl) ?_
  refine Zch (v := Z3 b) (b := bxB 36 (Zs b)) (nid := 1) (H' := [bxB 36 (Zs a), bxB 36 (Zs b), hole]) rfl rfl rfl (by kernel_rfl) (by kernel_rfl) ?_
  refine Zd rfl rfl (Iv 0) rfl (Zb (Zc (Zk ?_)))
  refine Zd6 (by kernel_rfl) ?_
  refine Ze (b := 0) (o := 0) (n := 0) (o' := 0) rfl rfl rfl rfl rfl ?_
  refine Zl (p := pt 0 0) (v := Iv a.region) rfl rfl rfl (by kernel_rfl) ?_
  refine Ze (b := 1) (o := 0) (n := 0) (o' := 0) rfl rfl rfl rfl rfl ?_
  refine Zl (p := pt 1 0) (v := Iv b.region) rfl rfl rfl (by kernel_rfl) ?_
  refine Zp (Zlk (G := G) a.region b.region) (vals := [Iv a.region, Iv b.region]) (res' := Iv (Zd0 a.region b.region)) rfl rfl rfl rfl rfl rfl ?_
  refine Ze (b := 0) (o := 0) (n := 1) (o' := 1) rfl rfl rfl rfl rfl ?_
  refine Zl (p := pt 0 1) (v := Iv a.epoch) rfl rfl rfl (by kernel_rfl) ?_
  refine Ze (b := 1) (o := 0) (n := 1) (o' := 1) rfl rfl rfl rfl rfl ?_
  refine Zl (p := pt 1 1) (v := Iv b.epoch) rfl rfl rfl (by kernel_rfl) ?_
  refine Zp (Zlk (G := G) a.epoch b.epoch) (vals := [Iv a.epoch, Iv b.epoch]) (res' := Iv (Zd0 a.epoch b.epoch)) rfl rfl rfl rfl rfl rfl ?_
  refine Zrj (vs := [(0, Iv (Zd0 a.region b.region)), (1, Iv (Zd0 a.epoch b.epoch))]) (v := slv 2 0 2 2) (blk := rwB Zpt [(Zd0 a.region b.region), (Zd0 a.epoch b.epoch)]) (nid := 2) (H' := [bxB 36 (Zs a), bxB 36 (Zs b), rwB Zpt [(Zd0 a.region b.region), (Zd0 a.epoch b.epoch)]]) rfl rfl rfl (by kernel_rfl) (by kernel_rfl) ?_
  refine Z9 (e := [some (2, 0)]) (nid := 0) (Zwx (G := G) [(Zd0 a.region b.region), (Zd0 a.epoch b.epoch)] 2 2 (rfl : _ = 2) (by omega) (by omega)) (vals := [slv 2 0 2 2]) (v := Iv (orL [(Zd0 a.region b.region), (Zd0 a.epoch b.epoch)])) (H' := [bxB 36 (Zs a), bxB 36 (Zs b), rwB Zpt [(Zd0 a.region b.region), (Zd0 a.epoch b.epoch)]]) rfl rfl rfl rfl rfl rfl rfl ⟨⟨⟨rfl, rfl, rfl, by first | omega | exact Nat.le_refl _, by first | omega | exact Nat.le_refl _⟩, trivial⟩, ⟨(Za1 rfl), trivial⟩, rfl, rfl, rfl⟩ rfl (by kernel_rfl) ?_
  refine Zd rfl rfl (Iv (orL [(Zd0 a.region b.region), (Zd0 a.epoch b.epoch)])) rfl ?_
  refine Zbe (Zan [[], [0], [], [2], [0, 1, 2, 3], [], [5], [], [7], [0, 1, 2, 3, 4, 5, 6, 7, 8], [0, 1, 2, 3, 4, 5, 6, 7, 8, 9], [0, 1, 2, 3, 4, 5, 6, 7, 8, 9, 10], [0, 1, 2, 3, 4, 5, 6, 7, 8, 9, 10, 11]] (by kernel_rfl) (by kernel_rfl)) ?_
  refine Zc (Zq (Zo ?_))
  exact Zi (v := Iv (orL [(Zd0 a.region b.region), (Zd0 a.epoch b.epoch)])) rfl rfl rfl (by kernel_rfl) rfl
theorem Zmk (l : List Claim) (n c : Nat) (hn : l.length = n) (hc : n ≤ c) (hb : n ≤ 1048576) : Zak Try.prog G 28 [slv 0 0 n c] [rwR Zj l] (Iv (Ze1 l)) [rwR Zj l] := by
  refine Zb5 (fn := Try.f28) (nt := 30) rfl rfl rfl rfl ?_
  refine Zk (Zm (Zd rfl rfl (Iv 0) rfl (Zb (Zc (Zk (Zk (Zm (Zf rfl rfl (slv 0 0 n c) rfl ?_))))))))
  refine Zci (p := slv 0 0 n c) (v := Iv (n : Nat)) rfl rfl rfl rfl ?_
  refine Zf rfl rfl (Iv 0) rfl (Zb (Zc (Zbm ?_)))
  refine Zex (fun i : Nat => [slv 0 0 n c, dead, dead, dead, dead, slv 0 0 n c, Iv (n : Nat), Iv (i : Nat)]) (fun i : Nat => [rwR Zj l]) (fun i : Nat => (∀ j, j < i → okC l j) ∧ i ≤ n) (fun i : Nat => n - i) 0 ⟨fun _ h => absurd h (by omega), by omega⟩ ?_ ?_
  · refine Zba (n := 1) rfl ?_ (by kernel_rfl) (by kernel_rfl)
    repeat (first | exact trivial | refine ⟨.inl rfl, ?_⟩ | refine ⟨.inr ⟨rfl, rfl⟩, ?_⟩ | refine ⟨.inr ⟨congrArg (Value.int .i64) (by first | omega | (dsimp only; omega)), rfl⟩, ?_⟩)
  rintro i ⟨hR, hi⟩
  refine Za5 2 (H' := [rwR Zj l, hole, hole]) rfl ?_
  refine Zk (Zm ?_)
  by_cases h1 : (i : Nat) < (n : Nat)
  refine Zn (vx := Iv (i : Nat)) (vy := Iv (n : Nat)) rfl rfl (.bool true) rfl rfl (Zea (by omega)) ?_
  refine Zb (Zc (Zk (Z4 rfl (Z8 (Zc (Zk (Zbm (Zk (Zm (Zf rfl rfl (Iv (i : Nat)) rfl ?_))))))))))
  refine Zcq (b := 0) (o := 0) (j := i * 36) (m := n) (c := c) (sz := 36) (i := (i : Nat)) (k := .i64) rfl rfl rfl rfl rfl (by omega) (by omega) (by omega) ?_
  refine Zl (p := pt 0 (i * 36)) (v := Z3 (l.getD i default)) rfl rfl rfl (Zdt (n := 0) (m := 36) Zj rfl rfl rfl rfl (by have := hn; omega) (by omega)) ?_
  refine Zbk (b := bxB 36 (Zs (⟨0, 0, 0, 0, dz⟩ : Claim))) (nid := 1) (H' := [rwR Zj l, bxB 36 (Zs (⟨0, 0, 0, 0, dz⟩ : Claim)), hole]) rfl rfl (by kernel_rfl) (by kernel_rfl) ?_
  refine Zd rfl rfl (Iv (i : Nat)) rfl ?_
  refine Zaa (p := pt 1 0) (v := Z3 (l.getD i default)) (b := 1) (blk := bxB 36 (Zs (l.getD i default))) (H' := [rwR Zj l, bxB 36 (Zs (l.getD i default)), hole]) rfl rfl rfl (by kernel_rfl) (by kernel_rfl) ?_
  refine Zb (Zc (Zk ?_))
  refine Zgu (by kernel_rfl) ?_
  refine Zl (p := pt 1 0) (v := Z3 (l.getD i default)) rfl rfl rfl (by kernel_rfl) ?_
  refine Zp (Zh9 (G := G) (l.getD i default)) (vals := [Z3 (l.getD i default)]) (res' := Iv (Zfi (l.getD i default))) rfl rfl rfl rfl rfl rfl ?_
  by_cases h2 : (Zfi (l.getD i default)) ≠ 0
  refine Zn (vx := Iv (Zfi (l.getD i default))) (vy := Iv 0) rfl rfl (.bool true) rfl rfl (Zed (by omega)) ?_
  refine Zf rfl rfl (.bool true) rfl (Za rfl rfl (Za rfl rfl (Za rfl rfl (Za rfl rfl (Za rfl rfl (Za rfl rfl (Za rfl rfl (Za rfl rfl (Za rfl rfl (Za rfl rfl (Za rfl rfl (Za rfl rfl (Zg rfl rfl (.bool true) rfl ?_)))))))))))))
  refine Zct (Zbh [[], [0], [0, 1], [0, 1, 2], [0, 1, 2, 3], [0, 1, 2, 3, 4], [0, 1, 2, 3, 4, 5], [0, 1, 2, 3, 4, 5, 6], [0, 1, 2, 3, 4, 5, 6], [0, 1, 2, 3, 4, 5, 6, 8], [0, 1, 2, 3, 4, 5, 6, 7, 8, 9], [0, 1, 2, 3, 4, 5, 6, 7, 8, 9, 10], [0, 1, 2, 3, 4, 5, 6], [0, 1, 2, 3, 4, 5, 6, 7, 8, 9, 10, 11, 12], [0, 1, 2, 3, 4, 5, 6, 7, 8, 9, 10, 11, 12, 13], [0, 1, 2, 3, 4, 5, 6, 7, 8, 9, 10, 11, 12, 13, 14], [0, 1, 2, 3, 4, 5, 6, 7, 8, 9, 10, 11, 12, 13, 14, 15]] (by kernel_rfl) (by kernel_rfl)) ?_
  refine Zc (Z4 rfl (Zk (Zm (Zd rfl rfl (Iv 110) rfl (Zb (Zc (Zq (Zz (Zv (Zbi (Zz (Zv (Zo ?_)))))))))))))
  rw [show Ze1 l = 110 from if_neg (fun q => by have q1 := q i (by omega); first | exact Zof (by omega) q1.1 | (have q2 := Zjc.2 (q1.2 (by omega)); omega))]
  exact Zi (v := Iv 110) rfl rfl rfl (by kernel_rfl) rfl
  refine Zn (vx := Iv (Zfi (l.getD i default))) (vy := Iv 0) rfl rfl (.bool false) rfl rfl (Zd4 (by omega)) ?_
  refine Zf rfl rfl (.bool false) rfl (Zf rfl rfl (Iv (i : Nat)) rfl ?_)
  by_cases h3 : 0 < (i : Nat)
  refine Zn (vx := Iv (i : Nat)) (vy := Iv 0) rfl rfl (.bool true) rfl rfl (Zeq (by omega)) ?_
  refine Zf rfl rfl (.bool true) rfl (Zf rfl rfl (slv 0 0 n c) rfl (Zf rfl rfl (Iv (i : Nat)) rfl ?_))
  refine Zn (vx := Iv (i : Nat)) (vy := Iv 1) rfl rfl (Iv ((i : Nat) - 1)) rfl rfl (Zhz (by omega) (by omega) (by omega)) ?_
  refine Zcq (b := 0) (o := 0) (j := (i - 1) * 36) (m := n) (c := c) (sz := 36) (i := (i : Nat) - 1) (k := .i64) rfl rfl rfl rfl rfl (by omega) (by omega) (by omega) ?_
  refine Zl (p := pt 0 ((i - 1) * 36)) (v := Z3 (l.getD (i - 1) default)) rfl rfl rfl (Zdt (n := 0) (m := 36) Zj rfl rfl rfl rfl (by have := hn; omega) (by omega)) ?_
  refine Zl (p := pt 1 0) (v := Z3 (l.getD i default)) rfl rfl rfl (by kernel_rfl) ?_
  refine Zp (Ztt (G := G) (l.getD (i - 1) default) (l.getD i default)) (vals := [Z3 (l.getD (i - 1) default), Z3 (l.getD i default)]) (res' := Iv (Zpe (l.getD (i - 1) default) (l.getD i default))) rfl rfl rfl rfl rfl rfl ?_
  by_cases h4 : 0 ≤ (Zpe (l.getD (i - 1) default) (l.getD i default))
  refine Zn (vx := Iv (Zpe (l.getD (i - 1) default) (l.getD i default))) (vy := Iv 0) rfl rfl (.bool true) rfl rfl (Zhr (by omega)) ?_
  refine Zg rfl rfl (.bool true) rfl (Zg rfl rfl (.bool true) rfl ?_)
  refine Zct (Zbh [[], [0], [0, 1], [0, 1, 2], [0, 1, 2, 3], [0, 1, 2, 3, 4], [0, 1, 2, 3, 4, 5], [0, 1, 2, 3, 4, 5, 6], [0, 1, 2, 3, 4, 5, 6], [0, 1, 2, 3, 4, 5, 6, 8], [0, 1, 2, 3, 4, 5, 6, 7, 8, 9], [0, 1, 2, 3, 4, 5, 6, 7, 8, 9, 10], [0, 1, 2, 3, 4, 5, 6], [0, 1, 2, 3, 4, 5, 6, 7, 8, 9, 10, 11, 12], [0, 1, 2, 3, 4, 5, 6, 7, 8, 9, 10, 11, 12, 13], [0, 1, 2, 3, 4, 5, 6, 7, 8, 9, 10, 11, 12, 13, 14], [0, 1, 2, 3, 4, 5, 6, 7, 8, 9, 10, 11, 12, 13, 14, 15]] (by kernel_rfl) (by kernel_rfl)) ?_
  refine Zc (Z4 rfl (Zk (Zm (Zd rfl rfl (Iv 110) rfl (Zb (Zc (Zq (Zz (Zv (Zbi (Zz (Zv (Zo ?_)))))))))))))
  rw [show Ze1 l = 110 from if_neg (fun q => by have q1 := q i (by omega); first | exact Zof (by omega) q1.1 | (have q2 := Zjc.2 (q1.2 (by omega)); omega))]
  exact Zi (v := Iv 110) rfl rfl rfl (by kernel_rfl) rfl
  refine Zn (vx := Iv (Zpe (l.getD (i - 1) default) (l.getD i default))) (vy := Iv 0) rfl rfl (.bool false) rfl rfl (Zg4 (by omega)) ?_
  refine Zg rfl rfl (.bool false) rfl (Zg rfl rfl (.bool false) rfl ?_)
  refine Zct (Zbh [[], [0], [0, 1], [0, 1, 2], [0, 1, 2, 3], [0, 1, 2, 3, 4], [0, 1, 2, 3, 4, 5], [0, 1, 2, 3, 4, 5, 6], [0, 1, 2, 3, 4, 5, 6], [0, 1, 2, 3, 4, 5, 6, 8], [0, 1, 2, 3, 4, 5, 6, 7, 8, 9], [0, 1, 2, 3, 4, 5, 6, 7, 8, 9, 10], [0, 1, 2, 3, 4, 5, 6], [0, 1, 2, 3, 4, 5, 6, 7, 8, 9, 10, 11, 12], [0, 1, 2, 3, 4, 5, 6, 7, 8, 9, 10, 11, 12, 13], [0, 1, 2, 3, 4, 5, 6, 7, 8, 9, 10, 11, 12, 13, 14], [0, 1, 2, 3, 4, 5, 6, 7, 8, 9, 10, 11, 12, 13, 14, 15]] (by kernel_rfl) (by kernel_rfl)) ?_
  refine Zc (Zx rfl (Z8 (Z2 (Zc (Zm ?_)))))
  refine Zn (vx := Iv (i : Nat)) (vy := Iv 1) rfl rfl (Iv ((i : Nat) + 1)) rfl rfl (Zcs (by omega) (by omega) (by omega)) ?_
  refine Zf rfl rfl (Iv ((i : Nat) + 1)) rfl (Zb ?_)
  refine Z7 ⟨(i + 1), ⟨fun j hj => by rcases Nat.lt_or_ge j i with h | h; exact hR j h; obtain rfl : j = i := (by omega); exact ⟨Zoi (by omega), fun q => by first | omega | exact Zjc.1 (by omega)⟩, by omega⟩, by show n - (i + 1) < n - i; omega, ?_⟩
  refine Zba (n := 1) rfl ?_ (by kernel_rfl) (by kernel_rfl)
  repeat (first | exact trivial | refine ⟨.inl rfl, ?_⟩ | refine ⟨.inr ⟨rfl, rfl⟩, ?_⟩ | refine ⟨.inr ⟨congrArg (Value.int .i64) (by first | omega | (dsimp only; omega)), rfl⟩, ?_⟩)
  refine Zn (vx := Iv (i : Nat)) (vy := Iv 0) rfl rfl (.bool false) rfl rfl (Zem (by omega)) ?_
  refine Zf rfl rfl (.bool false) rfl (Za rfl rfl (Za rfl rfl (Za rfl rfl (Za rfl rfl (Za rfl rfl (Za rfl rfl (Za rfl rfl (Za rfl rfl (Zg rfl rfl (.bool false) rfl (Zg rfl rfl (.bool false) rfl ?_))))))))))
  refine Zct (Zbh [[], [0], [0, 1], [0, 1, 2], [0, 1, 2, 3], [0, 1, 2, 3, 4], [0, 1, 2, 3, 4, 5], [0, 1, 2, 3, 4, 5, 6], [0, 1, 2, 3, 4, 5, 6], [0, 1, 2, 3, 4, 5, 6, 8], [0, 1, 2, 3, 4, 5, 6, 7, 8, 9], [0, 1, 2, 3, 4, 5, 6, 7, 8, 9, 10], [0, 1, 2, 3, 4, 5, 6], [0, 1, 2, 3, 4, 5, 6, 7, 8, 9, 10, 11, 12], [0, 1, 2, 3, 4, 5, 6, 7, 8, 9, 10, 11, 12, 13], [0, 1, 2, 3, 4, 5, 6, 7, 8, 9, 10, 11, 12, 13, 14], [0, 1, 2, 3, 4, 5, 6, 7, 8, 9, 10, 11, 12, 13, 14, 15]] (by kernel_rfl) (by kernel_rfl)) ?_
  refine Zc (Zx rfl (Z8 (Z2 (Zc (Zm ?_)))))
  refine Zn (vx := Iv (i : Nat)) (vy := Iv 1) rfl rfl (Iv ((i : Nat) + 1)) rfl rfl (Zcs (by omega) (by omega) (by omega)) ?_
  refine Zf rfl rfl (Iv ((i : Nat) + 1)) rfl (Zb ?_)
  refine Z7 ⟨(i + 1), ⟨fun j hj => by rcases Nat.lt_or_ge j i with h | h; exact hR j h; obtain rfl : j = i := (by omega); exact ⟨Zoi (by omega), fun q => by first | omega | exact Zjc.1 (by omega)⟩, by omega⟩, by show n - (i + 1) < n - i; omega, ?_⟩
  refine Zba (n := 1) rfl ?_ (by kernel_rfl) (by kernel_rfl)
  repeat (first | exact trivial | refine ⟨.inl rfl, ?_⟩ | refine ⟨.inr ⟨rfl, rfl⟩, ?_⟩ | refine ⟨.inr ⟨congrArg (Value.int .i64) (by first | omega | (dsimp only; omega)), rfl⟩, ?_⟩)
  refine Zn (vx := Iv (i : Nat)) (vy := Iv (n : Nat)) rfl rfl (.bool false) rfl rfl (Zeb (by omega)) ?_
  refine Zb (Zc (Zk (Zx rfl (Zf9 (Zew (Zde (Zel rfl (Zc (Zk (Zm (Zd rfl rfl (Iv 0) rfl (Zb (Zc (Zq (Zo ?_)))))))))))))))
  rw [show Ze1 l = 0 from if_pos (fun j hj => hR j (by omega))]
  exact Zi (v := Iv 0) rfl rfl rfl (by kernel_rfl) rfl
theorem Zpj (a b : Claim) : Zak Try.prog G 51 [Z3 a, Z3 b] [] (.bool (decide (Zdm a b))) [] := by
 refine Zb5 (fn := Try.f51) (nt := 24) rfl rfl rfl rfl ?_
 refine Za5 2 (H' := [hole, hole]) rfl ?_
 refine Zk (Zm ?_)
 refine Zch (v := Z3 a) (b := bxB 36 (Zs a)) (nid := 0) (H' := [bxB 36 (Zs a), hole]) rfl rfl rfl (by kernel_rfl) (by kernel_rfl) ?_
 refine Zch (v := Z3 b) (b := bxB 36 (Zs b)) (nid := 1) (H' := [bxB 36 (Zs a), bxB 36 (Zs b)]) rfl rfl rfl (by kernel_rfl) (by kernel_rfl) ?_
 refine Zd rfl rfl (.bool false) rfl (Zb (Zc (Zk (Zm ?_))))
 refine Ze (b := 0) (o := 0) (n := 0) (o' := 0) rfl rfl rfl rfl rfl ?_
 refine Zl (p := pt 0 0) (v := Iv a.region) rfl rfl rfl (by kernel_rfl) ?_
 refine Ze (b := 1) (o := 0) (n := 0) (o' := 0) rfl rfl rfl rfl rfl ?_
 refine Zl (p := pt 1 0) (v := Iv b.region) rfl rfl rfl (by kernel_rfl) ?_
 by_cases h1 : a.region < b.region
 refine Zn (vx := Iv a.region) (vy := Iv b.region) rfl rfl (.bool true) rfl rfl (Zea (by omega)) ?_
 refine Zf rfl rfl (.bool true) rfl (Za rfl rfl (Za rfl rfl (Za rfl rfl (Za rfl rfl (Za rfl rfl (Za rfl rfl (Za rfl rfl (Za rfl rfl (Za rfl rfl (Za rfl rfl (Za rfl rfl (Za rfl rfl (Zg rfl rfl (.bool true) rfl (Zd rfl rfl (.bool true) rfl (Zb (Zc (Zq (Zo ?_))))))))))))))))))
 rw [show decide (Zdm a b) = true from decide_eq_true (by unfold Zdm; omega)]
 exact Zi (v := .bool true) rfl rfl rfl (by kernel_rfl) rfl
 refine Zn (vx := Iv a.region) (vy := Iv b.region) rfl rfl (.bool false) rfl rfl (Zeb (by omega)) ?_
 refine Zf rfl rfl (.bool false) rfl ?_
 refine Ze (b := 0) (o := 0) (n := 0) (o' := 0) rfl rfl rfl rfl rfl ?_
 refine Zl (p := pt 0 0) (v := Iv a.region) rfl rfl rfl (by kernel_rfl) ?_
 refine Ze (b := 1) (o := 0) (n := 0) (o' := 0) rfl rfl rfl rfl rfl ?_
 refine Zl (p := pt 1 0) (v := Iv b.region) rfl rfl rfl (by kernel_rfl) ?_
 by_cases h2 : a.region = b.region
 refine Zn (vx := Iv a.region) (vy := Iv b.region) rfl rfl (.bool true) rfl rfl (Zao (by omega)) ?_
 refine Zf rfl rfl (.bool true) rfl ?_
 refine Ze (b := 0) (o := 0) (n := 1) (o' := 1) rfl rfl rfl rfl rfl ?_
 refine Zl (p := pt 0 1) (v := Iv a.epoch) rfl rfl rfl (by kernel_rfl) ?_
 refine Ze (b := 1) (o := 0) (n := 1) (o' := 1) rfl rfl rfl rfl rfl ?_
 refine Zl (p := pt 1 1) (v := Iv b.epoch) rfl rfl rfl (by kernel_rfl) ?_
 by_cases h3 : a.epoch < b.epoch
 refine Zn (vx := Iv a.epoch) (vy := Iv b.epoch) rfl rfl (.bool true) rfl rfl (Zea (by omega)) ?_
 refine Zg rfl rfl (.bool true) rfl (Zg rfl rfl (.bool true) rfl (Zd rfl rfl (.bool true) rfl (Zb (Zc (Zq (Zo ?_))))))
 rw [show decide (Zdm a b) = true from decide_eq_true (by unfold Zdm; omega)]
 exact Zi (v := .bool true) rfl rfl rfl (by kernel_rfl) rfl
 refine Zn (vx := Iv a.epoch) (vy := Iv b.epoch) rfl rfl (.bool false) rfl rfl (Zeb (by omega)) ?_
 refine Zg rfl rfl (.bool false) rfl (Zg rfl rfl (.bool false) rfl (Zd rfl rfl (.bool false) rfl (Zb (Zc (Zq (Zo ?_))))))
 rw [show decide (Zdm a b) = false from decide_eq_false (by unfold Zdm; omega)]
 exact Zi (v := .bool false) rfl rfl rfl (by kernel_rfl) rfl
 refine Zn (vx := Iv a.region) (vy := Iv b.region) rfl rfl (.bool false) rfl rfl (Zbf (by omega)) ?_
 refine Zf rfl rfl (.bool false) rfl (Za rfl rfl (Za rfl rfl (Za rfl rfl (Za rfl rfl (Za rfl rfl (Zg rfl rfl (.bool false) rfl (Zg rfl rfl (.bool false) rfl (Zd rfl rfl (.bool false) rfl (Zb (Zc (Zq (Zo ?_))))))))))))
 rw [show decide (Zdm a b) = false from decide_eq_false (by unfold Zdm; omega)]
 exact Zi (v := .bool false) rfl rfl rfl (by kernel_rfl) rfl
theorem Zlu (l : List Claim) (n c : Nat) (hn : l.length = n) (hc : n ≤ c) (hb : n ≤ 1048576) : Zak Try.prog G 33 [slv 0 0 n c] [rwR Zj l] (.bool (decide (Zdu l))) [rwR Zj l] := by
  refine Zb5 (fn := Try.f33) (nt := 33) rfl rfl rfl rfl ?_
  refine Zk (Zm (Zd rfl rfl (.bool false) rfl (Zb (Zc (Zk (Zk (Zm (Zd rfl rfl (Iv 0) rfl (Zb (Zc (Zbm ?_)))))))))))
  refine Zex (fun i : Nat => [slv 0 0 n c, dead, dead, Iv (i : Nat)]) (fun i : Nat => [rwR Zj l]) (fun i : Nat => (∀ j, j < i → okC l j) ∧ i ≤ n) (fun i : Nat => n - i) 0 ⟨fun _ h => absurd h (by omega), by omega⟩ ?_ ?_
  · refine Zba (n := 1) rfl ?_ (by kernel_rfl) (by kernel_rfl)
    repeat (first | exact trivial | refine ⟨.inl rfl, ?_⟩ | refine ⟨.inr ⟨rfl, rfl⟩, ?_⟩ | refine ⟨.inr ⟨congrArg (Value.int .i64) (by first | omega | (dsimp only; omega)), rfl⟩, ?_⟩)
  rintro i ⟨hR, hi⟩
  refine Za5 2 (H' := [rwR Zj l, hole, hole]) rfl ?_
  refine Zk (Zk (Zm (Zf rfl rfl (Iv (i : Nat)) rfl (Zf rfl rfl (slv 0 0 n c) rfl ?_))))
  refine Zci (p := slv 0 0 n c) (v := Iv (n : Nat)) rfl rfl rfl rfl ?_
  by_cases h1 : (i : Nat) < (n : Nat)
  refine Zn (vx := Iv (i : Nat)) (vy := Iv (n : Nat)) rfl rfl (.bool true) rfl rfl (Zea (by omega)) ?_
  refine Zb (Zc (Z4 rfl (Z8 (Zc (Zk (Zbm (Zk ?_)))))))
  refine Zgu (by kernel_rfl) ?_
  refine Zf rfl rfl (slv 0 0 n c) rfl (Zf rfl rfl (Iv (i : Nat)) rfl ?_)
  refine Zcq (b := 0) (o := 0) (j := i * 36) (m := n) (c := c) (sz := 36) (i := (i : Nat)) (k := .i64) rfl rfl rfl rfl rfl (by omega) (by omega) (by omega) ?_
  refine Zl (p := pt 0 (i * 36)) (v := Z3 (l.getD i default)) rfl rfl rfl (Zdt (n := 0) (m := 36) Zj rfl rfl rfl rfl (by have := hn; omega) (by omega)) ?_
  refine Zp (Zjb (G := G) (l.getD i default)) (vals := [Z3 (l.getD i default)]) (res' := .bool (decide (Zaw (l.getD i default)))) rfl rfl rfl rfl rfl rfl ?_
  rcases Bool.eq_false_or_eq_true (decide (Zaw (l.getD i default))) with h2 | h2
  refine Zd3 (vx := .bool (decide (Zaw (l.getD i default)))) rfl rfl (.bool false) rfl (Eq.trans Zbx (congrArg (fun b => some (Value.bool !b)) h2)) ?_
  refine Zf rfl rfl (.bool false) rfl (Zf rfl rfl (Iv (i : Nat)) rfl ?_)
  by_cases h3 : 0 < (i : Nat)
  refine Zn (vx := Iv (i : Nat)) (vy := Iv 0) rfl rfl (.bool true) rfl rfl (Zeq (by omega)) ?_
  refine Zf rfl rfl (.bool true) rfl (Zf rfl rfl (slv 0 0 n c) rfl (Zf rfl rfl (Iv (i : Nat)) rfl ?_))
  refine Zn (vx := Iv (i : Nat)) (vy := Iv 1) rfl rfl (Iv ((i : Nat) - 1)) rfl rfl (Zhz (by omega) (by omega) (by omega)) ?_
  refine Zcq (b := 0) (o := 0) (j := (i - 1) * 36) (m := n) (c := c) (sz := 36) (i := (i : Nat) - 1) (k := .i64) rfl rfl rfl rfl rfl (by omega) (by omega) (by omega) ?_
  refine Zl (p := pt 0 ((i - 1) * 36)) (v := Z3 (l.getD (i - 1) default)) rfl rfl rfl (Zdt (n := 0) (m := 36) Zj rfl rfl rfl rfl (by have := hn; omega) (by omega)) ?_
  refine Zf rfl rfl (slv 0 0 n c) rfl (Zf rfl rfl (Iv (i : Nat)) rfl ?_)
  refine Zcq (b := 0) (o := 0) (j := i * 36) (m := n) (c := c) (sz := 36) (i := (i : Nat)) (k := .i64) rfl rfl rfl rfl rfl (by omega) (by omega) (by omega) ?_
  refine Zl (p := pt 0 (i * 36)) (v := Z3 (l.getD i default)) rfl rfl rfl (Zdt (n := 0) (m := 36) Zj rfl rfl rfl rfl (by have := hn; omega) (by omega)) ?_
  refine Zp (Zpj (G := G) (l.getD (i - 1) default) (l.getD i default)) (vals := [Z3 (l.getD (i - 1) default), Z3 (l.getD i default)]) (res' := .bool (decide (Zdm (l.getD (i - 1) default) (l.getD i default)))) rfl rfl rfl rfl rfl rfl ?_
  rcases Bool.eq_false_or_eq_true (decide (Zdm (l.getD (i - 1) default) (l.getD i default))) with h4 | h4
  refine Zd3 (vx := .bool (decide (Zdm (l.getD (i - 1) default) (l.getD i default)))) rfl rfl (.bool false) rfl (Eq.trans Zbx (congrArg (fun b => some (Value.bool !b)) h4)) ?_
  refine Zg rfl rfl (.bool false) rfl (Zg rfl rfl (.bool false) rfl ?_)
  refine Zct (Zbh [[], [], [0, 1], [0, 1, 2], [0, 1, 2, 3], [0, 1, 2, 3, 4], [0, 1, 2, 3, 4, 5], [0, 1, 2, 3, 4, 5, 6], [0, 1, 2, 3, 4, 5, 6, 7], [0, 1, 2, 3, 4, 5, 6, 7, 8], [0, 1, 2, 3, 4, 5, 6, 7, 8, 9], [0, 1, 2, 3, 4, 5, 6, 7, 8, 9], [0, 1, 2, 3, 4, 5, 6, 7, 8, 9, 11], [0, 1, 2, 3, 4, 5, 6, 7, 8, 9, 10, 11, 12], [0, 1, 2, 3, 4, 5, 6, 7, 8, 9, 10, 11, 12, 13], [0, 1, 2, 3, 4, 5, 6, 7, 8, 9], [0, 1, 2, 3, 4, 5, 6, 7, 8, 9], [0, 1, 2, 3, 4, 5, 6, 7, 8, 9, 15, 16], [0, 1, 2, 3, 4, 5, 6, 7, 8, 9, 15, 16, 17], [0, 1, 2, 3, 4, 5, 6, 7, 8, 9, 10, 11, 12, 13, 14, 15, 16, 17, 18], [0, 1, 2, 3, 4, 5, 6, 7, 8, 9, 10, 11, 12, 13, 14, 15, 16, 17, 18, 19], [0, 1, 2, 3, 4, 5, 6, 7, 8, 9, 10, 11, 12, 13, 14, 15, 16, 17, 18, 19, 20], [0, 1, 2, 3, 4, 5, 6, 7, 8, 9, 10, 11, 12, 13, 14, 15, 16, 17, 18, 19, 20, 21]] (by kernel_rfl) (by kernel_rfl)) ?_
  refine Zc (Zx rfl (Z8 (Z2 (Zc (Zm (Zf rfl rfl (Iv (i : Nat)) rfl ?_))))))
  refine Zn (vx := Iv (i : Nat)) (vy := Iv 1) rfl rfl (Iv ((i : Nat) + 1)) rfl rfl (Zcs (by omega) (by omega) (by omega)) ?_
  refine Zd rfl rfl (Iv ((i : Nat) + 1)) rfl (Zb ?_)
  refine Z7 ⟨(i + 1), ⟨fun j hj => by rcases Nat.lt_or_ge j i with h | h; exact hR j h; obtain rfl : j = i := (by omega); exact ⟨of_decide_eq_true (by assumption), fun q => by first | omega | exact of_decide_eq_true (by assumption)⟩, by omega⟩, by show n - (i + 1) < n - i; omega, ?_⟩
  refine Zba (n := 1) rfl ?_ (by kernel_rfl) (by kernel_rfl)
  repeat (first | exact trivial | refine ⟨.inl rfl, ?_⟩ | refine ⟨.inr ⟨rfl, rfl⟩, ?_⟩ | refine ⟨.inr ⟨congrArg (Value.int .i64) (by first | omega | (dsimp only; omega)), rfl⟩, ?_⟩)
  refine Zd3 (vx := .bool (decide (Zdm (l.getD (i - 1) default) (l.getD i default)))) rfl rfl (.bool true) rfl (Eq.trans Zbx (congrArg (fun b => some (Value.bool !b)) h4)) ?_
  refine Zg rfl rfl (.bool true) rfl (Zg rfl rfl (.bool true) rfl ?_)
  refine Zct (Zbh [[], [], [0, 1], [0, 1, 2], [0, 1, 2, 3], [0, 1, 2, 3, 4], [0, 1, 2, 3, 4, 5], [0, 1, 2, 3, 4, 5, 6], [0, 1, 2, 3, 4, 5, 6, 7], [0, 1, 2, 3, 4, 5, 6, 7, 8], [0, 1, 2, 3, 4, 5, 6, 7, 8, 9], [0, 1, 2, 3, 4, 5, 6, 7, 8, 9], [0, 1, 2, 3, 4, 5, 6, 7, 8, 9, 11], [0, 1, 2, 3, 4, 5, 6, 7, 8, 9, 10, 11, 12], [0, 1, 2, 3, 4, 5, 6, 7, 8, 9, 10, 11, 12, 13], [0, 1, 2, 3, 4, 5, 6, 7, 8, 9], [0, 1, 2, 3, 4, 5, 6, 7, 8, 9], [0, 1, 2, 3, 4, 5, 6, 7, 8, 9, 15, 16], [0, 1, 2, 3, 4, 5, 6, 7, 8, 9, 15, 16, 17], [0, 1, 2, 3, 4, 5, 6, 7, 8, 9, 10, 11, 12, 13, 14, 15, 16, 17, 18], [0, 1, 2, 3, 4, 5, 6, 7, 8, 9, 10, 11, 12, 13, 14, 15, 16, 17, 18, 19], [0, 1, 2, 3, 4, 5, 6, 7, 8, 9, 10, 11, 12, 13, 14, 15, 16, 17, 18, 19, 20], [0, 1, 2, 3, 4, 5, 6, 7, 8, 9, 10, 11, 12, 13, 14, 15, 16, 17, 18, 19, 20, 21]] (by kernel_rfl) (by kernel_rfl)) ?_
  refine Zc (Z4 rfl (Zk (Zm (Zd rfl rfl (.bool false) rfl (Zb (Zc (Zq (Zz (Zv (Zbi (Zz (Zv (Zo ?_)))))))))))))
  rw [show decide (Zdu l) = false from decide_eq_false (fun q => by have q1 := q i (by omega); first | exact absurd q1.1 (of_decide_eq_false (by assumption)) | exact absurd (q1.2 (by omega)) (of_decide_eq_false (by assumption)))]
  exact Zi (v := .bool false) rfl rfl rfl (by kernel_rfl) rfl
  refine Zn (vx := Iv (i : Nat)) (vy := Iv 0) rfl rfl (.bool false) rfl rfl (Zem (by omega)) ?_
  refine Zf rfl rfl (.bool false) rfl (Za rfl rfl (Za rfl rfl (Za rfl rfl (Za rfl rfl (Za rfl rfl (Za rfl rfl (Za rfl rfl (Za rfl rfl (Za rfl rfl (Za rfl rfl (Za rfl rfl (Zg rfl rfl (.bool false) rfl (Zg rfl rfl (.bool false) rfl ?_)))))))))))))
  refine Zct (Zbh [[], [], [0, 1], [0, 1, 2], [0, 1, 2, 3], [0, 1, 2, 3, 4], [0, 1, 2, 3, 4, 5], [0, 1, 2, 3, 4, 5, 6], [0, 1, 2, 3, 4, 5, 6, 7], [0, 1, 2, 3, 4, 5, 6, 7, 8], [0, 1, 2, 3, 4, 5, 6, 7, 8, 9], [0, 1, 2, 3, 4, 5, 6, 7, 8, 9], [0, 1, 2, 3, 4, 5, 6, 7, 8, 9, 11], [0, 1, 2, 3, 4, 5, 6, 7, 8, 9, 10, 11, 12], [0, 1, 2, 3, 4, 5, 6, 7, 8, 9, 10, 11, 12, 13], [0, 1, 2, 3, 4, 5, 6, 7, 8, 9], [0, 1, 2, 3, 4, 5, 6, 7, 8, 9], [0, 1, 2, 3, 4, 5, 6, 7, 8, 9, 15, 16], [0, 1, 2, 3, 4, 5, 6, 7, 8, 9, 15, 16, 17], [0, 1, 2, 3, 4, 5, 6, 7, 8, 9, 10, 11, 12, 13, 14, 15, 16, 17, 18], [0, 1, 2, 3, 4, 5, 6, 7, 8, 9, 10, 11, 12, 13, 14, 15, 16, 17, 18, 19], [0, 1, 2, 3, 4, 5, 6, 7, 8, 9, 10, 11, 12, 13, 14, 15, 16, 17, 18, 19, 20], [0, 1, 2, 3, 4, 5, 6, 7, 8, 9, 10, 11, 12, 13, 14, 15, 16, 17, 18, 19, 20, 21]] (by kernel_rfl) (by kernel_rfl)) ?_
  refine Zc (Zx rfl (Z8 (Z2 (Zc (Zm (Zf rfl rfl (Iv (i : Nat)) rfl ?_))))))
  refine Zn (vx := Iv (i : Nat)) (vy := Iv 1) rfl rfl (Iv ((i : Nat) + 1)) rfl rfl (Zcs (by omega) (by omega) (by omega)) ?_
  refine Zd rfl rfl (Iv ((i : Nat) + 1)) rfl (Zb ?_)
  refine Z7 ⟨(i + 1), ⟨fun j hj => by rcases Nat.lt_or_ge j i with h | h; exact hR j h; obtain rfl : j = i := (by omega); exact ⟨of_decide_eq_true (by assumption), fun q => by first | omega | exact of_decide_eq_true (by assumption)⟩, by omega⟩, by show n - (i + 1) < n - i; omega, ?_⟩
  refine Zba (n := 1) rfl ?_ (by kernel_rfl) (by kernel_rfl)
  repeat (first | exact trivial | refine ⟨.inl rfl, ?_⟩ | refine ⟨.inr ⟨rfl, rfl⟩, ?_⟩ | refine ⟨.inr ⟨congrArg (Value.int .i64) (by first | omega | (dsimp only; omega)), rfl⟩, ?_⟩)
  refine Zd3 (vx := .bool (decide (Zaw (l.getD i default)))) rfl rfl (.bool true) rfl (Eq.trans Zbx (congrArg (fun b => some (Value.bool !b)) h2)) ?_
  refine Zf rfl rfl (.bool true) rfl (Za rfl rfl (Za rfl rfl (Za rfl rfl (Za rfl rfl (Za rfl rfl (Za rfl rfl (Za rfl rfl (Za rfl rfl (Za rfl rfl (Za rfl rfl (Za rfl rfl (Za rfl rfl (Za rfl rfl (Za rfl rfl (Za rfl rfl (Zg rfl rfl (.bool true) rfl ?_))))))))))))))))
  refine Zct (Zbh [[], [], [0, 1], [0, 1, 2], [0, 1, 2, 3], [0, 1, 2, 3, 4], [0, 1, 2, 3, 4, 5], [0, 1, 2, 3, 4, 5, 6], [0, 1, 2, 3, 4, 5, 6, 7], [0, 1, 2, 3, 4, 5, 6, 7, 8], [0, 1, 2, 3, 4, 5, 6, 7, 8, 9], [0, 1, 2, 3, 4, 5, 6, 7, 8, 9], [0, 1, 2, 3, 4, 5, 6, 7, 8, 9, 11], [0, 1, 2, 3, 4, 5, 6, 7, 8, 9, 10, 11, 12], [0, 1, 2, 3, 4, 5, 6, 7, 8, 9, 10, 11, 12, 13], [0, 1, 2, 3, 4, 5, 6, 7, 8, 9], [0, 1, 2, 3, 4, 5, 6, 7, 8, 9], [0, 1, 2, 3, 4, 5, 6, 7, 8, 9, 15, 16], [0, 1, 2, 3, 4, 5, 6, 7, 8, 9, 15, 16, 17], [0, 1, 2, 3, 4, 5, 6, 7, 8, 9, 10, 11, 12, 13, 14, 15, 16, 17, 18], [0, 1, 2, 3, 4, 5, 6, 7, 8, 9, 10, 11, 12, 13, 14, 15, 16, 17, 18, 19], [0, 1, 2, 3, 4, 5, 6, 7, 8, 9, 10, 11, 12, 13, 14, 15, 16, 17, 18, 19, 20], [0, 1, 2, 3, 4, 5, 6, 7, 8, 9, 10, 11, 12, 13, 14, 15, 16, 17, 18, 19, 20, 21]] (by kernel_rfl) (by kernel_rfl)) ?_
  refine Zc (Z4 rfl (Zk (Zm (Zd rfl rfl (.bool false) rfl (Zb (Zc (Zq (Zz (Zv (Zbi (Zz (Zv (Zo ?_)))))))))))))
  rw [show decide (Zdu l) = false from decide_eq_false (fun q => by have q1 := q i (by omega); first | exact absurd q1.1 (of_decide_eq_false (by assumption)) | exact absurd (q1.2 (by omega)) (of_decide_eq_false (by assumption)))]
  exact Zi (v := .bool false) rfl rfl rfl (by kernel_rfl) rfl
  refine Zn (vx := Iv (i : Nat)) (vy := Iv (n : Nat)) rfl rfl (.bool false) rfl rfl (Zeb (by omega)) ?_
  refine Zb (Zc (Zx rfl (Zf9 (Zew (Zde (Zel rfl (Zc (Zk (Zm (Zd rfl rfl (.bool true) rfl (Zb (Zc (Zq (Zo ?_))))))))))))))
  rw [show decide (Zdu l) = true from decide_eq_true (fun j hj => hR j (by omega))]
  exact Zi (v := .bool true) rfl rfl rfl (by kernel_rfl) rfl
theorem Zpq (l m : List Claim) (n c p d : Nat) (hn : l.length = n) (hm : m.length = p) (hc : n ≤ c) (hd : p ≤ d) (hb : n ≤ 1048576) (hb2 : p ≤ 1048576) : Zak Try.prog G 35 [slv 0 0 n c, slv 1 0 p d] [rwR Zj l, rwR Zj m] (.bool (Zcr l m)) [rwR Zj l, rwR Zj m] := by
  refine Zb5 (fn := Try.f35) (nt := 26) rfl rfl rfl rfl ?_
  refine Zk (Zm (Zd rfl rfl (.bool false) rfl (Zb (Zc (Zk (Zk (Zm (Zf rfl rfl (slv 0 0 n c) rfl ?_))))))))
  refine Zci (p := slv 0 0 n c) (v := Iv (n : Nat)) rfl rfl rfl rfl ?_
  refine Zf rfl rfl (slv 1 0 p d) rfl ?_
  refine Zci (p := slv 1 0 p d) (v := Iv (p : Nat)) rfl rfl rfl rfl ?_
  by_cases h1 : (n : Nat) ≠ (p : Nat)
  refine Zn (vx := Iv (n : Nat)) (vy := Iv (p : Nat)) rfl rfl (.bool true) rfl rfl (Zed (by omega)) ?_
  refine Zb (Zc (Z4 rfl (Zk (Zm (Zd rfl rfl (.bool false) rfl (Zb (Zc (Zq (Zv (Zo ?_))))))))))
  rw [show Zcr l m = false from by first | exact Zk0 (by omega) | exact Zpp i (by omega) (by assumption)]
  exact Zi (v := .bool false) rfl rfl rfl (by kernel_rfl) rfl
  refine Zn (vx := Iv (n : Nat)) (vy := Iv (p : Nat)) rfl rfl (.bool false) rfl rfl (Zd4 (by omega)) ?_
  refine Zb (Zc (Zx rfl (Z8 (Zc (Zk (Zk (Zm (Zd rfl rfl (Iv 0) rfl (Zb (Zc (Zbm ?_)))))))))))
  refine Zex (fun i : Nat => [slv 0 0 n c, slv 1 0 p d, dead, dead, dead, Iv (i : Nat), slv 0 0 n c, Iv (n : Nat), slv 1 0 p d, Iv (p : Nat), .bool false]) (fun i : Nat => [rwR Zj l, rwR Zj m]) (fun i : Nat => (∀ j, j < i → Zw (l.getD j default) (m.getD j default) = true) ∧ i ≤ n) (fun i : Nat => n - i) 0 ⟨fun _ h => absurd h (by omega), by omega⟩ ?_ ?_
  · refine Zba (n := 2) rfl ?_ (by kernel_rfl) (by kernel_rfl)
    repeat (first | exact trivial | refine ⟨.inl rfl, ?_⟩ | refine ⟨.inr ⟨rfl, rfl⟩, ?_⟩ | refine ⟨.inr ⟨congrArg (Value.int .i64) (by first | omega | (dsimp only; omega)), rfl⟩, ?_⟩)
  rintro i ⟨hR, hi⟩
  refine Za5 1 (H' := [rwR Zj l, rwR Zj m, hole]) rfl ?_
  refine Zk (Zk (Zm (Zf rfl rfl (Iv (i : Nat)) rfl (Zf rfl rfl (slv 0 0 n c) rfl ?_))))
  refine Zci (p := slv 0 0 n c) (v := Iv (n : Nat)) rfl rfl rfl rfl ?_
  by_cases h2 : (i : Nat) < (n : Nat)
  refine Zn (vx := Iv (i : Nat)) (vy := Iv (n : Nat)) rfl rfl (.bool true) rfl rfl (Zea (by omega)) ?_
  refine Zb (Zc (Z4 rfl (Z8 (Zc (Zk (Zbm (Zk ?_)))))))
  refine Zd6 (by kernel_rfl) ?_
  refine Zf rfl rfl (slv 0 0 n c) rfl (Zf rfl rfl (Iv (i : Nat)) rfl ?_)
  refine Zcq (b := 0) (o := 0) (j := i * 36) (m := n) (c := c) (sz := 36) (i := (i : Nat)) (k := .i64) rfl rfl rfl rfl rfl (by omega) (by omega) (by omega) ?_
  refine Zl (p := pt 0 (i * 36)) (v := Z3 (l.getD i default)) rfl rfl rfl (Zdt (n := 0) (m := 36) Zj rfl rfl rfl rfl (by have := hn; omega) (by omega)) ?_
  refine Zf rfl rfl (slv 1 0 p d) rfl (Zf rfl rfl (Iv (i : Nat)) rfl ?_)
  refine Zcq (b := 1) (o := 0) (j := i * 36) (m := p) (c := d) (sz := 36) (i := (i : Nat)) (k := .i64) rfl rfl rfl rfl rfl (by omega) (by omega) (by omega) ?_
  refine Zl (p := pt 1 (i * 36)) (v := Z3 (m.getD i default)) rfl rfl rfl (Zdt (n := 0) (m := 36) Zj rfl rfl rfl rfl (by have := hm; omega) (by omega)) ?_
  rcases Bool.eq_false_or_eq_true (Zw (l.getD i default) (m.getD i default)) with h3 | h3
  refine Zn (vx := Z3 (l.getD i default)) (vy := Z3 (m.getD i default)) rfl rfl (.bool false) rfl rfl (Eq.trans (Zmi (l.getD i default) (m.getD i default)) (by rw [h3] <;> rfl)) ?_
  refine Zbe (Zan [[], [], [0, 1], [0, 1, 2], [], [], [4, 5], [4, 5, 6], [0, 1, 2, 3, 4, 5, 6, 7]] (by kernel_rfl) (by kernel_rfl)) ?_
  refine Zc (Zx rfl (Z8 (Z2 (Zc (Zm (Zf rfl rfl (Iv (i : Nat)) rfl ?_))))))
  refine Zn (vx := Iv (i : Nat)) (vy := Iv 1) rfl rfl (Iv ((i : Nat) + 1)) rfl rfl (Zcs (by omega) (by omega) (by omega)) ?_
  refine Zd rfl rfl (Iv ((i : Nat) + 1)) rfl (Zb ?_)
  refine Z7 ⟨(i + 1), ⟨fun j hj => by rcases Nat.lt_or_ge j i with h | h; exact hR j h; obtain rfl : j = i := (by omega); assumption, by omega⟩, by show n - (i + 1) < n - i; omega, ?_⟩
  refine Zba (n := 2) rfl ?_ (by kernel_rfl) (by kernel_rfl)
  repeat (first | exact trivial | refine ⟨.inl rfl, ?_⟩ | refine ⟨.inr ⟨rfl, rfl⟩, ?_⟩ | refine ⟨.inr ⟨congrArg (Value.int .i64) (by first | omega | (dsimp only; omega)), rfl⟩, ?_⟩)
  refine Zn (vx := Z3 (l.getD i default)) (vy := Z3 (m.getD i default)) rfl rfl (.bool true) rfl rfl (Eq.trans (Zmi (l.getD i default) (m.getD i default)) (by rw [h3] <;> rfl)) ?_
  refine Zbe (Zan [[], [], [0, 1], [0, 1, 2], [], [], [4, 5], [4, 5, 6], [0, 1, 2, 3, 4, 5, 6, 7]] (by kernel_rfl) (by kernel_rfl)) ?_
  refine Zc (Z4 rfl (Zk (Zm (Zd rfl rfl (.bool false) rfl (Zb (Zc (Zq (Zz (Zv (Zbi (Zz (Zv (Zo ?_)))))))))))))
  rw [show Zcr l m = false from by first | exact Zk0 (by omega) | exact Zpp i (by omega) (by assumption)]
  exact Zi (v := .bool false) rfl rfl rfl (by kernel_rfl) rfl
  refine Zn (vx := Iv (i : Nat)) (vy := Iv (n : Nat)) rfl rfl (.bool false) rfl rfl (Zeb (by omega)) ?_
  refine Zb (Zc (Zx rfl (Zf9 (Zew (Zde (Zel rfl (Zc (Zk (Zm (Zd rfl rfl (.bool true) rfl (Zb (Zc (Zq (Zo ?_))))))))))))))
  rw [show Zcr l m = true from Zpc (by omega) (fun j hj => hR j (by omega))]
  exact Zi (v := .bool true) rfl rfl rfl (by kernel_rfl) rfl
theorem Zp5 (l : List Claim) (n c : Nat) (hn : l.length = n) (hc : n ≤ c) (hb : n ≤ 1048576) : Zak Try.prog G 25 [slv 0 0 n c] [rwR Zj l] (slv 1 0 n n) [rwR Zj l, rwB Zj l] := by
  refine Zb5 (fn := Try.f25) (nt := 8) rfl rfl rfl rfl ?_
  refine Za5 1 (H' := [rwR Zj l, hole]) rfl ?_
  refine Zk (Zm (Zd rfl rfl (.slice none 0 0) rfl (Zb (Zc (Zk (Zm (Zd rfl rfl (.slice none 0 0) rfl (Zb (Zc (Zk ?_))))))))))
  refine Zfq (Zcz.nilTmp (i := 3) (b := 1) true 36 rfl (by decide) rfl) ?_
  refine Zm (Zf rfl rfl (slv 1 0 0 0) rfl (Zf rfl rfl (slv 0 0 n c) rfl ?_))
  have hl2 : ([] ++ l).length = n := by have := hn; first | (rw [List.length_append]; omega) | (simp; omega) | simp
  refine Zgi (p := slv 1 0 0 0) (q := slv 0 0 n c) (v := slv 1 0 n n) (b := 1) (blk := rwB Zj ([] ++ l)) (H' := [rwR Zj l, rwB Zj ([] ++ l)]) rfl rfl rfl (.inl ⟨_, rfl⟩) rfl rfl (Zi4 Zj (by_ := 64) (k := n) (n' := n) (ms := l) (fun _ => rfl) rfl rfl (Zg8 Zj rfl rfl (by have := hn; omega)) rfl rfl rfl (by omega) (by decide) (by omega)) rfl (by kernel_rfl) ?_
  refine Zd rfl rfl (slv 1 0 n n) rfl (Zb (Zc (Zk (Zm (Zf rfl rfl (slv 1 0 n n) rfl (Zd rfl rfl (slv 1 0 n n) rfl (Zb (Zc (Zq (Zo ?_))))))))))
  exact Zcc [0, 1] (v := slv 1 0 n n) rfl (by kernel_rfl) rfl rfl (by decide) (by simp [Zc6, rwB, rwR, Zj]) ⟨rfl, rfl, rfl, by first | omega | exact Nat.le_refl _ | exact Nat.zero_le _ | (dsimp only; omega), by first | omega | exact Nat.le_refl _ | exact Nat.zero_le _ | (dsimp only; omega)⟩
end Go.Flat
