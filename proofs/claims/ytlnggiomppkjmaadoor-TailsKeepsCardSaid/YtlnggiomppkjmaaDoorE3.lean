/- Walks. -/
import Derived.Test.YtlnggiomppkjmaaDoorE2
set_option linter.unusedVariables false
set_option linter.unusedSimpArgs false
set_option maxRecDepth 20000
namespace Go.Flat
open Go.Proofs
variable {G : Glob}
theorem Znm (l : List Item) (i : Nat) (h : i < l.length) : l.drop i = l.getD i default :: l.drop (i + 1) := by
 rw [List.drop_eq_getElem_cons h, List.getD_eq_getElem?_getD, List.getElem?_eq_getElem h]; rfl
def Zje : Int → List Item → Bool
  | _, [] => true
  | ep, x :: l => decide (Zdg x) && decide (ep ≤ x.epoch) && Zje x.epoch l
def Ziu (l : List Item) : Prop := l.length ≤ 2000 ∧ Zje 0 l = true
instance (l : List Item) : Decidable (Ziu l) := inferInstanceAs (Decidable (_ ∧ _))
def Zj5 (l : List Item) : Int := if Ziu l then 0 else 100
theorem Zg0 {l : List Item} (h : Zj5 l = 0) : Ziu l := by
 unfold Zj5 at h
 split at h
 ·assumption
 ·omega
theorem Zfd {l : List Item} (h : ¬ Zj5 l = 0) : ¬ Ziu l := fun q => h (if_pos q)
theorem Zug {ep : Int} {l : List Item} {i : Nat} {R : Bool} (hR : Zje ep (l.drop i) = R) (hi : i < l.length) (h1 : Zdg (l.getD i default)) (h2 : ep ≤ (l.getD i default).epoch) : Zje (l.getD i default).epoch (l.drop (i + 1)) = R := by
 rw [Znm l i hi, Zje, decide_eq_true h1, decide_eq_true h2] at hR; simpa using hR
theorem Zmf {ep : Int} {l : List Item} {i : Nat} {R : Bool} (hR : Zje ep (l.drop i) = R) (hi : i < l.length) (h : ¬ (Zdg (l.getD i default) ∧ ep ≤ (l.getD i default).epoch)) : R = false := by
 rw [Znm l i hi, Zje] at hR
 rw [← hR]
 by_cases h1 : Zdg (l.getD i default)
 ·rw [decide_eq_false (fun q => h ⟨h1, q⟩ : ¬ ep ≤ (l.getD i default).epoch)]; simp
 ·rw [decide_eq_false h1]; simp
def Z7f (l : List Item) (i : Nat) : Int := if i = 0 then 0 else (l.getD (i - 1) default).epoch
def Z30 (x : Item) : Bool := decide (1000 < x.entry.text.size)
def Zkv (l : List Item) : Bool := decide (60 < l.length) || l.any Z30
theorem Zyl {l : List Item} {i : Nat} {p : Item → Bool} {R : Bool} (hR : (l.drop i).any p = R) (hi : i < l.length) (h : p (l.getD i default) = false) : (l.drop (i + 1)).any p = R := by
 rw [Znm l i hi, List.any_cons, h, Bool.false_or] at hR; exact hR
theorem Zvm {l : List Item} {i : Nat} {p : Item → Bool} {R : Bool} (hR : (l.drop i).any p = R) (hi : i < l.length) (h : p (l.getD i default) = true) : R = true := by
 rw [Znm l i hi, List.any_cons, h, Bool.true_or] at hR; exact hR.symm
def Ze9 (l m : List Item) : Bool := decide (l.length = m.length) && (List.range l.length).all fun i => Zc2 (l.getD i default) (m.getD i default)
theorem Z2y {l m : List Item} (h : l.length = m.length) (hR : ∀ j, j < l.length → Zc2 (l.getD j default) (m.getD j default) = true) : Ze9 l m = true := by
 unfold Ze9
 rw [decide_eq_true h, Bool.true_and, List.all_eq_true]
 intro j hj
 exact hR j (List.mem_range.1 hj)
theorem Zqi {l m : List Item} (h : l.length ≠ m.length) : Ze9 l m = false := by
 unfold Ze9
 rw [decide_eq_false h, Bool.false_and]
theorem Zwj {l m : List Item} (i : Nat) (hi : i < l.length) (h : Zc2 (l.getD i default) (m.getD i default) = false) : Ze9 l m = false := by
  cases hs : Ze9 l m with
  | false => rfl
  | true =>
    unfold Ze9 at hs
    rw [Bool.and_eq_true, List.all_eq_true] at hs
    have := hs.2 i (List.mem_range.2 hi)
    rw [h] at this; cases this
theorem Zf0 (n low high : Int) : Z6 Tryd.prog G 62 [Iv n, Iv low, Iv high] [] (.bool (Zcn n low high)) [] := by
 refine Zbh (fn := Tryd.f62) (nt := 15) rfl rfl rfl rfl ?_
 refine Zf (Zg (Zb (.bool false) (Za (Zc (Zf (Zg (Zd (Iv n) (Zd (Iv low) ?_))))))))
 by_cases h1 : low ≤ n
 refine Zl (vx := Iv n) (vy := Iv low) rfl rfl (.bool true) rfl rfl (Zoe (by omega)) ?_
 refine Zd (.bool true) (Zd (Iv n) (Zd (Iv high) ?_))
 by_cases h2 : n ≤ high
 refine Zl (vx := Iv n) (vy := Iv high) rfl rfl (.bool true) rfl rfl (Zlg (by omega)) ?_
 refine Zk (.bool true) (Zb (.bool true) (Za (Zc (Zr (Zt ?_)))))
 rw [show Zcn n low high = true from Zbq (by omega) (by omega)]
 exact Zm (v := .bool true) rfl rfl rfl (by kernel_rfl) rfl
 refine Zl (vx := Iv n) (vy := Iv high) rfl rfl (.bool false) rfl rfl (Zlf (by omega)) ?_
 refine Zk (.bool false) (Zb (.bool false) (Za (Zc (Zr (Zt ?_)))))
 rw [show Zcn n low high = false from Zac (by omega)]
 exact Zm (v := .bool false) rfl rfl rfl (by kernel_rfl) rfl
 refine Zl (vx := Iv n) (vy := Iv low) rfl rfl (.bool false) rfl rfl (Zod (by omega)) ?_
 refine Zd (.bool false) (Ze (Ze (Ze (Zk (.bool false) (Zb (.bool false) (Za (Zc (Zr (Zt ?_)))))))))
 rw [show Zcn n low high = false from Zac (by omega)]
 exact Zm (v := .bool false) rfl rfl rfl (by kernel_rfl) rfl
theorem Z0o (x : Item) : Z6 Tryd.prog G 55 [Zbd x] [] (.bool (decide (Zdg x))) [] := by
  refine Zbh (fn := Tryd.f55) (nt := 12) rfl rfl rfl rfl ?_
  refine Zaf 1 (H' := [hole]) rfl ?_
  refine Zf (Zg (Zb7 (v := Zbd x) (b := bxB 110 (Zbi x)) (nid := 0) (H' := [bxB 110 (Zbi x)]) (Zb (.bool false) (Za (Zc (Zf (Zg (Zh (b := 0) (o := 0) (n := 0) (o' := 0) (Zn (p := pt 0 0) (v := Iv x.epoch) ?_)))))))))
  by_cases h1 : 1 ≤ x.epoch
  by_cases h2 : x.epoch ≤ 900000000
  refine Zs ((Zf0 (G := G) x.epoch 1 900000000).res (congrArg Value.bool (Zbq (by omega) (by omega)))) (vals := [Iv x.epoch, Iv 1, Iv 900000000]) (res' := .bool true) rfl rfl rfl rfl rfl rfl ?_
  refine Zd (.bool true) (Zh (b := 0) (o := 0) (n := 1) (o' := 1) (Zn (p := pt 0 1) (v := Zd1 x.entry) ?_))
  refine Zs (Zmx (G := G) x.entry) (vals := [Zd1 x.entry]) (res' := Iv (Zel x.entry)) rfl rfl rfl rfl rfl rfl ?_
  by_cases h3 : (Zel x.entry) = 0
  refine Zl (vx := Iv (Zel x.entry)) (vy := Iv 0) rfl rfl (.bool true) rfl rfl (Zdp (by omega)) ?_
  refine Zk (.bool true) (Zb (.bool true) (Za (Zc (Zr (Zt ?_)))))
  rw [show decide (Zdg x) = true from decide_eq_true ⟨by omega, by omega, Zr6 (by omega)⟩]
  exact Zm (v := .bool true) rfl rfl rfl (by kernel_rfl) rfl
  refine Zl (vx := Iv (Zel x.entry)) (vy := Iv 0) rfl rfl (.bool false) rfl rfl (Zef (by omega)) ?_
  refine Zk (.bool false) (Zb (.bool false) (Za (Zc (Zr (Zt ?_)))))
  rw [show decide (Zdg x) = false from decide_eq_false (fun q => by first | (have := q.1; have := q.2.1; omega) | (exact Zi8 (by omega) q.2.2))]
  exact Zm (v := .bool false) rfl rfl rfl (by kernel_rfl) rfl
  refine Zs ((Zf0 (G := G) x.epoch 1 900000000).res (congrArg Value.bool (Zac (by omega)))) (vals := [Iv x.epoch, Iv 1, Iv 900000000]) (res' := .bool false) rfl rfl rfl rfl rfl rfl ?_
  refine Zd (.bool false) (Ze (Ze (Ze (Ze (Zk (.bool false) (Zb (.bool false) (Za (Zc (Zr (Zt ?_))))))))))
  rw [show decide (Zdg x) = false from decide_eq_false (fun q => by first | (have := q.1; have := q.2.1; omega) | (exact Zi8 (by omega) q.2.2))]
  exact Zm (v := .bool false) rfl rfl rfl (by kernel_rfl) rfl
  refine Zs ((Zf0 (G := G) x.epoch 1 900000000).res (congrArg Value.bool (Zac (by omega)))) (vals := [Iv x.epoch, Iv 1, Iv 900000000]) (res' := .bool false) rfl rfl rfl rfl rfl rfl ?_
  refine Zd (.bool false) (Ze (Ze (Ze (Ze (Zk (.bool false) (Zb (.bool false) (Za (Zc (Zr (Zt ?_))))))))))
  rw [show decide (Zdg x) = false from decide_eq_false (fun q => by first | (have := q.1; have := q.2.1; omega) | (exact Zi8 (by omega) q.2.2))]
  exact Zm (v := .bool false) rfl rfl rfl (by kernel_rfl) rfl
theorem Zpq (l : List Item) (n c : Nat) (hn : l.length = n) (hc : n ≤ c) (hb : n ≤ 1048576) : Z6 Tryd.prog G 43 [slv 0 0 n c] [rwR Zi l] (Iv (Zj5 l)) [rwR Zi l] := by
  refine Zbh (fn := Tryd.f43) (nt := 27) rfl rfl rfl rfl ?_
  refine Zf (Zg (Zb (Iv 0) (Za (Zc (Zf (Zg (Zb (Iv 0) (Za (Zc (Zf (Zf (Zg (Zd (slv 0 0 n c) (Zaw (p := slv 0 0 n c) (v := Iv (n : Nat)) (Zd (Iv 0) (Za (Zc (Z8 ?_))))))))))))))))))
  refine Zbt (fun x : Nat × Int => match x with | (i, ep) => [slv 0 0 n c, dead, dead, Iv ep, dead, dead, slv 0 0 n c, Iv (n : Nat), Iv (i : Nat)]) (fun x : Nat × Int => match x with | (i, ep) => [rwR Zi l]) (fun x : Nat × Int => match x with | (i, ep) => Zje ep (l.drop i) = Zje 0 l ∧ i ≤ n) (fun x : Nat × Int => match x with | (i, ep) => n - i) (0, 0) ⟨rfl, by omega⟩ ?_ ?_
  · refine Zaj (n := 1) rfl ?_ (by kernel_rfl) (by kernel_rfl)
    repeat (first | exact trivial | refine ⟨.inl rfl, ?_⟩ | refine ⟨.inr ⟨rfl, rfl⟩, ?_⟩ | refine ⟨.inr ⟨congrArg (Value.int .i64) (by first | omega | (dsimp only; omega)), rfl⟩, ?_⟩)
  rintro ⟨i, ep⟩ ⟨hR, hi⟩
  dsimp only at *
  refine Zaf 2 (H' := [rwR Zi l, hole, hole]) rfl ?_
  refine Zf (Zg ?_)
  by_cases h1 : (i : Nat) < (n : Nat)
  refine Zl (vx := Iv (i : Nat)) (vy := Iv (n : Nat)) rfl rfl (.bool true) rfl rfl (Zck (by omega)) ?_
  refine Za (Zc (Zf (Zy rfl (Zz (Zc (Zf (Z8 (Zf (Zg ?_)))))))))
  refine Zbo (b := 0) (o := 0) (j := i * 110) (m := n) (c := c) (sz := 110) (i := (i : Nat)) (k := .i64) rfl rfl rfl rfl rfl (by omega) (by omega) (by omega) ?_
  refine Zal (p := pt 0 (i * 110)) (v := Zbd (l.getD i default)) rfl rfl rfl (Zf6 (n := 0) (m := 110) Zi rfl rfl rfl rfl (by have := hn; omega) (by omega)) ?_
  refine Za9 (b := bxB 110 (Zbi (⟨0, (⟨0, 0, 0, ⟨#[]⟩, (⟨(⟨0, 0, 0, dz, 0⟩ : Head), 0, dz⟩ : Signed), (⟨0, 0, 0, 0, dz⟩ : Claim)⟩ : Entry)⟩ : Item))) (nid := 1) (H' := [rwR Zi l, bxB 110 (Zbi (⟨0, (⟨0, 0, 0, ⟨#[]⟩, (⟨(⟨0, 0, 0, dz, 0⟩ : Head), 0, dz⟩ : Signed), (⟨0, 0, 0, 0, dz⟩ : Claim)⟩ : Entry)⟩ : Item)), hole]) (Zab (p := pt 1 0) (v := Zbd (l.getD i default)) (b := 1) (blk := bxB 110 (Zbi (l.getD i default))) (H' := [rwR Zi l, bxB 110 (Zbi (l.getD i default)), hole]) (Za (Zc (Zf (Zf (Zg (Zn (p := pt 1 0) (v := Zbd (l.getD i default)) ?_)))))))
  refine Zs (Z0o (G := G) (l.getD i default)) (vals := [Zbd (l.getD i default)]) (res' := .bool (decide (Zdg (l.getD i default)))) rfl rfl rfl rfl rfl rfl ?_
  rcases Bool.eq_false_or_eq_true (decide (Zdg (l.getD i default))) with h2 | h2
  refine Zfb (vx := .bool (decide (Zdg (l.getD i default)))) rfl rfl (.bool false) rfl (Eq.trans Zcq (congrArg (fun b => some (Value.bool !b)) h2)) ?_
  refine Zd (.bool false) (Zh (b := 1) (o := 0) (n := 0) (o' := 0) (Zn (p := pt 1 0) (v := Iv ((l.getD i default).epoch)) (Zd (Iv ep) ?_)))
  by_cases h3 : ((l.getD i default).epoch) < ep
  refine Zl (vx := Iv ((l.getD i default).epoch)) (vy := Iv ep) rfl rfl (.bool true) rfl rfl (Zck (by omega)) ?_
  refine Zk (.bool true) (Za (Zc (Zy rfl (Zf (Zg (Zb (Iv 100) (Za (Zc (Zr (Z2 (Zar (Z2 (Zcy (Zar (Z2 (Zt ?_))))))))))))))))
  rw [show Zj5 l = 100 from if_neg (fun q => by have q1 := q.1; have q2 := q.2; first | omega | (rw [Zmf hR (by omega) (fun r => by first | (have := r.2; omega) | exact absurd r.1 (of_decide_eq_false (by assumption)))] at q2; cases q2))]
  exact Zm (v := Iv 100) rfl rfl rfl (by kernel_rfl) rfl
  refine Zl (vx := Iv ((l.getD i default).epoch)) (vy := Iv ep) rfl rfl (.bool false) rfl rfl (Zcd (by omega)) ?_
  refine Zk (.bool false) (Za (Zc (Zu rfl (Zz (Zc (Zg (Zh (b := 1) (o := 0) (n := 0) (o' := 0) (Zn (p := pt 1 0) (v := Iv ((l.getD i default).epoch)) (Zb (Iv ((l.getD i default).epoch)) (Za (Z7 (Zc (Zg ?_)))))))))))))
  refine Zl (vx := Iv (i : Nat)) (vy := Iv 1) rfl rfl (Iv ((i : Nat) + 1)) rfl rfl (Zak (by omega) (by omega) (by omega)) ?_
  refine Zd (Iv ((i : Nat) + 1)) (Za ?_)
  refine Zag ⟨((i + 1), ((l.getD i default).epoch)), ⟨Zug hR (by omega) (of_decide_eq_true (by assumption)) (by omega), by omega⟩, by show n - (i + 1) < n - i; omega, ?_⟩
  refine Zaj (n := 1) rfl ?_ (by kernel_rfl) (by kernel_rfl)
  repeat (first | exact trivial | refine ⟨.inl rfl, ?_⟩ | refine ⟨.inr ⟨rfl, rfl⟩, ?_⟩ | refine ⟨.inr ⟨congrArg (Value.int .i64) (by first | omega | (dsimp only; omega)), rfl⟩, ?_⟩)
  refine Zfb (vx := .bool (decide (Zdg (l.getD i default)))) rfl rfl (.bool true) rfl (Eq.trans Zcq (congrArg (fun b => some (Value.bool !b)) h2)) ?_
  refine Zd (.bool true) (Ze (Ze (Ze (Ze (Zk (.bool true) (Za (Zc (Zy rfl (Zf (Zg (Zb (Iv 100) (Za (Zc (Zr (Z2 (Zar (Z2 (Zcy (Zar (Z2 (Zt ?_)))))))))))))))))))))
  rw [show Zj5 l = 100 from if_neg (fun q => by have q1 := q.1; have q2 := q.2; first | omega | (rw [Zmf hR (by omega) (fun r => by first | (have := r.2; omega) | exact absurd r.1 (of_decide_eq_false (by assumption)))] at q2; cases q2))]
  exact Zm (v := Iv 100) rfl rfl rfl (by kernel_rfl) rfl
  refine Zl (vx := Iv (i : Nat)) (vy := Iv (n : Nat)) rfl rfl (.bool false) rfl rfl (Zcd (by omega)) ?_
  refine Za (Zc (Zf (Zu rfl (Zbm (Zaq (Zax (Zav rfl (Zc (Zf (Zf (Zg (Zd (slv 0 0 n c) (Zaw (p := slv 0 0 n c) (v := Iv (n : Nat)) ?_)))))))))))))
  by_cases h4 : 2000 < (n : Nat)
  refine Zl (vx := Iv (n : Nat)) (vy := Iv 2000) rfl rfl (.bool true) rfl rfl (Zfs (by omega)) ?_
  refine Za (Zc (Zy rfl (Zf (Zg (Zb (Iv 100) (Za (Zc (Zr (Z2 (Zt ?_))))))))))
  rw [show Zj5 l = 100 from if_neg (fun q => by have q1 := q.1; have q2 := q.2; first | omega | (rw [Zmf hR (by omega) (fun r => by first | (have := r.2; omega) | exact absurd r.1 (of_decide_eq_false (by assumption)))] at q2; cases q2))]
  exact Zm (v := Iv 100) rfl rfl rfl (by kernel_rfl) rfl
  refine Zl (vx := Iv (n : Nat)) (vy := Iv 2000) rfl rfl (.bool false) rfl rfl (Zfr (by omega)) ?_
  refine Za (Zc (Zu rfl (Zz (Zc (Zf (Zg (Zb (Iv 0) (Za (Zc (Zr (Zt ?_)))))))))))
  rw [show Zj5 l = 0 from if_pos ⟨by omega, by rw [← hR, List.drop_of_length_le (by omega)]; rfl⟩]
  exact Zm (v := Iv 0) rfl rfl rfl (by kernel_rfl) rfl
theorem Zxz (l : List Item) (n c : Nat) (hn : l.length = n) (hc : n ≤ c) (hb : n ≤ 9223372036854775807) : Z6 Tryd.prog G 15 [slv 0 0 n c] [rwR Zi l] (.bool (Zkv l)) [rwR Zi l] := by
  refine Zbh (fn := Tryd.f15) (nt := 21) rfl rfl rfl rfl ?_
  refine Zf (Zg (Zb (.bool false) (Za (Zc (Zf (Zf (Zg (Zd (slv 0 0 n c) (Zaw (p := slv 0 0 n c) (v := Iv (n : Nat)) ?_)))))))))
  by_cases h1 : 60 < (n : Nat)
  refine Zl (vx := Iv (n : Nat)) (vy := Iv 60) rfl rfl (.bool true) rfl rfl (Zfs (by omega)) ?_
  refine Za (Zc (Zy rfl (Zf (Zg (Zb (.bool true) (Za (Zc (Zr (Z2 (Zt ?_))))))))))
  rw [show Zkv l = true from by unfold Zkv; first | (rw [decide_eq_true (by omega : 60 < l.length)]; rfl) | (rw [Zvm hR (by omega) (decide_eq_true (by omega)), Bool.or_true])]
  exact Zm (v := .bool true) rfl rfl rfl (by kernel_rfl) rfl
  refine Zl (vx := Iv (n : Nat)) (vy := Iv 60) rfl rfl (.bool false) rfl rfl (Zfr (by omega)) ?_
  refine Za (Zc (Zu rfl (Zz (Zc (Zf (Zf (Zg (Zb (Iv 0) (Za (Zc (Z8 ?_)))))))))))
  refine Zbt (fun i : Nat => [slv 0 0 n c, dead, dead, Iv (i : Nat), slv 0 0 n c, Iv (n : Nat), .bool false]) (fun i : Nat => [rwR Zi l]) (fun i : Nat => (l.drop i).any Z30 = l.any Z30 ∧ i ≤ n) (fun i : Nat => n - i) 0 ⟨rfl, by omega⟩ ?_ ?_
  · refine Zaj (n := 1) rfl ?_ (by kernel_rfl) (by kernel_rfl)
    repeat (first | exact trivial | refine ⟨.inl rfl, ?_⟩ | refine ⟨.inr ⟨rfl, rfl⟩, ?_⟩ | refine ⟨.inr ⟨congrArg (Value.int .i64) (by first | omega | (dsimp only; omega)), rfl⟩, ?_⟩)
  rintro i ⟨hR, hi⟩
  refine Zaf 1 (H' := [rwR Zi l, hole]) rfl ?_
  refine Zf (Zf (Zg (Zd (Iv (i : Nat)) (Zd (slv 0 0 n c) (Zaw (p := slv 0 0 n c) (v := Iv (n : Nat)) ?_)))))
  by_cases h2 : (i : Nat) < (n : Nat)
  refine Zl (vx := Iv (i : Nat)) (vy := Iv (n : Nat)) rfl rfl (.bool true) rfl rfl (Zck (by omega)) ?_
  refine Za (Zc (Zy rfl (Zz (Zc (Zf (Z8 (Zf (Zg (Zd (slv 0 0 n c) (Zd (Iv (i : Nat)) ?_))))))))))
  refine Zbo (b := 0) (o := 0) (j := i * 110) (m := n) (c := c) (sz := 110) (i := (i : Nat)) (k := .i64) rfl rfl rfl rfl rfl (by omega) (by omega) (by omega) ?_
  refine Zbl (b := 0) (o := i * 110) (n := 1) (o' := i * 110 + 1) rfl rfl rfl rfl (by omega) ?_
  refine Zbl (b := 0) (o := i * 110 + 1) (n := 3) (o' := i * 110 + 4) rfl rfl rfl rfl (by omega) ?_
  refine Zal (p := pt 0 (i * 110 + 4)) (v := .string (((l.getD i default).entry).text)) rfl rfl rfl (Zml Zi (l := l) (i := i) (k := 4) (m := 110) rfl rfl rfl rfl (by have := hn; omega) (by omega) (by kernel_rfl) rfl) ?_
  refine Zaw (p := .string (((l.getD i default).entry).text)) (v := Iv ((((((l.getD i default).entry).text).size) : Nat) : Int)) ?_
  by_cases h3 : 1000 < ((((((l.getD i default).entry).text).size) : Nat) : Int)
  refine Zl (vx := Iv ((((((l.getD i default).entry).text).size) : Nat) : Int)) (vy := Iv 1000) rfl rfl (.bool true) rfl rfl (Zfs (by omega)) ?_
  refine Za (Zc (Zy rfl (Zf (Zg (Zb (.bool true) (Za (Zc (Zr (Zar (Z2 (Zcy (Zar (Z2 (Zt ?_))))))))))))))
  rw [show Zkv l = true from by unfold Zkv; first | (rw [decide_eq_true (by omega : 60 < l.length)]; rfl) | (rw [Zvm hR (by omega) (decide_eq_true (by omega)), Bool.or_true])]
  exact Zm (v := .bool true) rfl rfl rfl (by kernel_rfl) rfl
  refine Zl (vx := Iv ((((((l.getD i default).entry).text).size) : Nat) : Int)) (vy := Iv 1000) rfl rfl (.bool false) rfl rfl (Zfr (by omega)) ?_
  refine Za (Zc (Zu rfl (Zz (Z7 (Zc (Zg (Zd (Iv (i : Nat)) ?_)))))))
  refine Zl (vx := Iv (i : Nat)) (vy := Iv 1) rfl rfl (Iv ((i : Nat) + 1)) rfl rfl (Zak (by omega) (by omega) (by omega)) ?_
  refine Zb (Iv ((i : Nat) + 1)) (Za ?_)
  refine Zag ⟨(i + 1), ⟨Zyl hR (by omega) (decide_eq_false (by omega)), by omega⟩, by show n - (i + 1) < n - i; omega, ?_⟩
  refine Zaj (n := 1) rfl ?_ (by kernel_rfl) (by kernel_rfl)
  repeat (first | exact trivial | refine ⟨.inl rfl, ?_⟩ | refine ⟨.inr ⟨rfl, rfl⟩, ?_⟩ | refine ⟨.inr ⟨congrArg (Value.int .i64) (by first | omega | (dsimp only; omega)), rfl⟩, ?_⟩)
  refine Zl (vx := Iv (i : Nat)) (vy := Iv (n : Nat)) rfl rfl (.bool false) rfl rfl (Zcd (by omega)) ?_
  refine Za (Zc (Zu rfl (Zbm (Zaq (Zax (Zav rfl (Zc (Zf (Zg (Zb (.bool false) (Za (Zc (Zr (Zt ?_))))))))))))))
  rw [show Zkv l = false from by unfold Zkv; rw [decide_eq_false (by omega : ¬ 60 < l.length), Bool.false_or, ← hR, List.drop_of_length_le (by omega)]; rfl]
  exact Zm (v := .bool false) rfl rfl rfl (by kernel_rfl) rfl
theorem Zuy (l m : List Item) (n c p d : Nat) (hn : l.length = n) (hm : m.length = p) (hc : n ≤ c) (hd : p ≤ d) (hb : n ≤ 1048576) (hb2 : p ≤ 1048576) : Z6 Tryd.prog G 31 [slv 0 0 n c, slv 1 0 p d] [rwR Zi l, rwR Zi m] (.bool (Ze9 l m)) [rwR Zi l, rwR Zi m] := by
  refine Zbh (fn := Tryd.f31) (nt := 26) rfl rfl rfl rfl ?_
  refine Zf (Zg (Zb (.bool false) (Za (Zc (Zf (Zf (Zg (Zd (slv 0 0 n c) (Zaw (p := slv 0 0 n c) (v := Iv (n : Nat)) (Zd (slv 1 0 p d) (Zaw (p := slv 1 0 p d) (v := Iv (p : Nat)) ?_)))))))))))
  by_cases h1 : (n : Nat) ≠ (p : Nat)
  refine Zl (vx := Iv (n : Nat)) (vy := Iv (p : Nat)) rfl rfl (.bool true) rfl rfl (Zgf (by omega)) ?_
  refine Za (Zc (Zy rfl (Zf (Zg (Zb (.bool false) (Za (Zc (Zr (Z2 (Zt ?_))))))))))
  rw [show Ze9 l m = false from by first | exact Zqi (by omega) | exact Zwj i (by omega) (by assumption)]
  exact Zm (v := .bool false) rfl rfl rfl (by kernel_rfl) rfl
  refine Zl (vx := Iv (n : Nat)) (vy := Iv (p : Nat)) rfl rfl (.bool false) rfl rfl (Zfw (by omega)) ?_
  refine Za (Zc (Zu rfl (Zz (Zc (Zf (Zf (Zg (Zb (Iv 0) (Za (Zc (Z8 ?_)))))))))))
  refine Zbt (fun i : Nat => [slv 0 0 n c, slv 1 0 p d, dead, dead, dead, Iv (i : Nat), slv 0 0 n c, Iv (n : Nat), slv 1 0 p d, Iv (p : Nat), .bool false]) (fun i : Nat => [rwR Zi l, rwR Zi m]) (fun i : Nat => (∀ j, j < i → Zc2 (l.getD j default) (m.getD j default) = true) ∧ i ≤ n) (fun i : Nat => n - i) 0 ⟨fun _ h => absurd h (by omega), by omega⟩ ?_ ?_
  · refine Zaj (n := 2) rfl ?_ (by kernel_rfl) (by kernel_rfl)
    repeat (first | exact trivial | refine ⟨.inl rfl, ?_⟩ | refine ⟨.inr ⟨rfl, rfl⟩, ?_⟩ | refine ⟨.inr ⟨congrArg (Value.int .i64) (by first | omega | (dsimp only; omega)), rfl⟩, ?_⟩)
  rintro i ⟨hR, hi⟩
  refine Zaf 1 (H' := [rwR Zi l, rwR Zi m, hole]) rfl ?_
  refine Zf (Zf (Zg (Zd (Iv (i : Nat)) (Zd (slv 0 0 n c) (Zaw (p := slv 0 0 n c) (v := Iv (n : Nat)) ?_)))))
  by_cases h2 : (i : Nat) < (n : Nat)
  refine Zl (vx := Iv (i : Nat)) (vy := Iv (n : Nat)) rfl rfl (.bool true) rfl rfl (Zck (by omega)) ?_
  refine Za (Zc (Zy rfl (Zz (Zc (Zf (Z8 (Zf ?_)))))))
  refine Zgh (by kernel_rfl) ?_
  refine Zd (slv 0 0 n c) (Zd (Iv (i : Nat)) ?_)
  refine Zbo (b := 0) (o := 0) (j := i * 110) (m := n) (c := c) (sz := 110) (i := (i : Nat)) (k := .i64) rfl rfl rfl rfl rfl (by omega) (by omega) (by omega) ?_
  refine Zal (p := pt 0 (i * 110)) (v := Zbd (l.getD i default)) rfl rfl rfl (Zf6 (n := 0) (m := 110) Zi rfl rfl rfl rfl (by have := hn; omega) (by omega)) ?_
  refine Zd (slv 1 0 p d) (Zd (Iv (i : Nat)) ?_)
  refine Zbo (b := 1) (o := 0) (j := i * 110) (m := p) (c := d) (sz := 110) (i := (i : Nat)) (k := .i64) rfl rfl rfl rfl rfl (by omega) (by omega) (by omega) ?_
  refine Zal (p := pt 1 (i * 110)) (v := Zbd (m.getD i default)) rfl rfl rfl (Zf6 (n := 0) (m := 110) Zi rfl rfl rfl rfl (by have := hm; omega) (by omega)) ?_
  rcases Bool.eq_false_or_eq_true (Zc2 (l.getD i default) (m.getD i default)) with h3 | h3
  refine Zl (vx := Zbd (l.getD i default)) (vy := Zbd (m.getD i default)) rfl rfl (.bool false) rfl rfl (Eq.trans (Zs0 (l.getD i default) (m.getD i default)) (by rw [h3] <;> rfl)) ?_
  refine Zdm (Zc4 [[], [], [0, 1], [0, 1, 2], [], [], [4, 5], [4, 5, 6], [0, 1, 2, 3, 4, 5, 6, 7]] (by kernel_rfl) (by kernel_rfl)) ?_
  refine Zc (Zu rfl (Zz (Z7 (Zc (Zg (Zd (Iv (i : Nat)) ?_))))))
  refine Zl (vx := Iv (i : Nat)) (vy := Iv 1) rfl rfl (Iv ((i : Nat) + 1)) rfl rfl (Zak (by omega) (by omega) (by omega)) ?_
  refine Zb (Iv ((i : Nat) + 1)) (Za ?_)
  refine Zag ⟨(i + 1), ⟨fun j hj => by rcases Nat.lt_or_ge j i with h | h; exact hR j h; obtain rfl : j = i := (by omega); assumption, by omega⟩, by show n - (i + 1) < n - i; omega, ?_⟩
  refine Zaj (n := 2) rfl ?_ (by kernel_rfl) (by kernel_rfl)
  repeat (first | exact trivial | refine ⟨.inl rfl, ?_⟩ | refine ⟨.inr ⟨rfl, rfl⟩, ?_⟩ | refine ⟨.inr ⟨congrArg (Value.int .i64) (by first | omega | (dsimp only; omega)), rfl⟩, ?_⟩)
  refine Zl (vx := Zbd (l.getD i default)) (vy := Zbd (m.getD i default)) rfl rfl (.bool true) rfl rfl (Eq.trans (Zs0 (l.getD i default) (m.getD i default)) (by rw [h3] <;> rfl)) ?_
  refine Zdm (Zc4 [[], [], [0, 1], [0, 1, 2], [], [], [4, 5], [4, 5, 6], [0, 1, 2, 3, 4, 5, 6, 7]] (by kernel_rfl) (by kernel_rfl)) ?_
  refine Zc (Zy rfl (Zf (Zg (Zb (.bool false) (Za (Zc (Zr (Zar (Z2 (Zcy (Zar (Z2 (Zt ?_)))))))))))))
  rw [show Ze9 l m = false from by first | exact Zqi (by omega) | exact Zwj i (by omega) (by assumption)]
  exact Zm (v := .bool false) rfl rfl rfl (by kernel_rfl) rfl
  refine Zl (vx := Iv (i : Nat)) (vy := Iv (n : Nat)) rfl rfl (.bool false) rfl rfl (Zcd (by omega)) ?_
  refine Za (Zc (Zu rfl (Zbm (Zaq (Zax (Zav rfl (Zc (Zf (Zg (Zb (.bool true) (Za (Zc (Zr (Zt ?_))))))))))))))
  rw [show Ze9 l m = true from Z2y (by omega) (fun j hj => hR j (by omega))]
  exact Zm (v := .bool true) rfl rfl rfl (by kernel_rfl) rfl
end Go.Flat
