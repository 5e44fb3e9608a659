/- Walks. -/
import Derived.Test.YtoafdomlefoenaaE2
set_option linter.unusedVariables false
set_option linter.unusedSimpArgs false
set_option maxRecDepth 20000
namespace Go.Flat
open Go.Proofs
variable {G : Glob}
theorem Zko (l : List Item) (i : Nat) (h : i < l.length) : l.drop i = l.getD i default :: l.drop (i + 1) := by
 rw [List.drop_eq_getElem_cons h, List.getD_eq_getElem?_getD, List.getElem?_eq_getElem h]; rfl
def Ze9 : Int → List Item → Bool
  | _, [] => true
  | ep, x :: l => decide (Zbd x) && decide (ep ≤ x.epoch) && Ze9 x.epoch l
def Zcj (l : List Item) : Prop := l.length ≤ 2000 ∧ Ze9 0 l = true
instance (l : List Item) : Decidable (Zcj l) := inferInstanceAs (Decidable (_ ∧ _))
def Zfc (l : List Item) : Int := if Zcj l then 0 else 100
theorem Zby {l : List Item} (h : Zfc l = 0) : Zcj l := by
 unfold Zfc at h
 split at h
 ·assumption
 ·omega
theorem Zaj {l : List Item} (h : ¬ Zfc l = 0) : ¬ Zcj l := fun q => h (if_pos q)
theorem Zlg {ep : Int} {l : List Item} {i : Nat} {R : Bool} (hR : Ze9 ep (l.drop i) = R) (hi : i < l.length) (h1 : Zbd (l.getD i default)) (h2 : ep ≤ (l.getD i default).epoch) : Ze9 (l.getD i default).epoch (l.drop (i + 1)) = R := by
 rw [Zko l i hi, Ze9, decide_eq_true h1, decide_eq_true h2] at hR; simpa using hR
theorem Zh3 {ep : Int} {l : List Item} {i : Nat} {R : Bool} (hR : Ze9 ep (l.drop i) = R) (hi : i < l.length) (h : ¬ (Zbd (l.getD i default) ∧ ep ≤ (l.getD i default).epoch)) : R = false := by
 rw [Zko l i hi, Ze9] at hR
 rw [← hR]
 by_cases h1 : Zbd (l.getD i default)
 ·rw [decide_eq_false (fun q => h ⟨h1, q⟩ : ¬ ep ≤ (l.getD i default).epoch)]; simp
 ·rw [decide_eq_false h1]; simp
def Zmg (l : List Item) (i : Nat) : Int := if i = 0 then 0 else (l.getD (i - 1) default).epoch
theorem Zll {l : List Item} {i : Nat} {R : Bool} (hR : Ze9 (Zmg l i) (l.drop i) = R) (hi : i < l.length) (h1 : Zbd (l.getD i default)) (h2 : i = 0 ∨ (l.getD (i - 1) default).epoch ≤ (l.getD i default).epoch) : Ze9 (Zmg l (i + 1)) (l.drop (i + 1)) = R := by
 have := Zlg hR hi h1 (by
  unfold Zmg
  split
  ·have := h1.1; omega
  ·rcases h2 with h2 | h2
   ·omega
   ·exact h2)
 exact this
theorem Zjw {l : List Item} {i : Nat} {R : Bool} (hR : Ze9 (Zmg l i) (l.drop i) = R) (hi : i < l.length) (h : ¬ Zbd (l.getD i default) ∨ (0 < i ∧ (l.getD i default).epoch < (l.getD (i - 1) default).epoch)) : R = false := by
 refine Zh3 hR hi (fun q => ?_)
 rcases h with h | h
 ·exact h q.1
 ·have := q.2
  unfold Zmg at this
  rw [if_neg (by omega)] at this
  omega
def Zwa (x : Item) : Bool := decide (1000 < x.entry.text.size)
def Zga (l : List Item) : Bool := decide (60 < l.length) || l.any Zwa
theorem Ztl {l : List Item} {i : Nat} {p : Item → Bool} {R : Bool} (hR : (l.drop i).any p = R) (hi : i < l.length) (h : p (l.getD i default) = false) : (l.drop (i + 1)).any p = R := by
 rw [Zko l i hi, List.any_cons, h, Bool.false_or] at hR; exact hR
theorem Zq7 {l : List Item} {i : Nat} {p : Item → Bool} {R : Bool} (hR : (l.drop i).any p = R) (hi : i < l.length) (h : p (l.getD i default) = true) : R = true := by
 rw [Zko l i hi, List.any_cons, h, Bool.true_or] at hR; exact hR.symm
def Zdj (l m : List Item) : Bool := decide (l.length = m.length) && (List.range l.length).all fun i => Z5 (l.getD i default) (m.getD i default)
theorem Zqy {l m : List Item} (h : l.length = m.length) (hR : ∀ j, j < l.length → Z5 (l.getD j default) (m.getD j default) = true) : Zdj l m = true := by
 unfold Zdj
 rw [decide_eq_true h, Bool.true_and, List.all_eq_true]
 intro j hj
 exact hR j (List.mem_range.1 hj)
theorem Zme {l m : List Item} (h : l.length ≠ m.length) : Zdj l m = false := by
 unfold Zdj
 rw [decide_eq_false h, Bool.false_and]
theorem Zq6 {l m : List Item} (i : Nat) (hi : i < l.length) (h : Z5 (l.getD i default) (m.getD i default) = false) : Zdj l m = false := by
  cases hs : Zdj l m with
  | false => rfl
  | true =>
    unfold Zdj at hs
    rw [Bool.and_eq_true, List.all_eq_true] at hs
    have := hs.2 i (List.mem_range.2 hi)
    rw [h] at this; cases this
theorem Zpz (l : List Item) : Zdj l l = true := Zqy rfl fun j _ => Za9 _
theorem Zil (n low high : Int) : Zak Try.prog G 57 [Iv n, Iv low, Iv high] [] (.bool (Za4 n low high)) [] := by
 refine Zb5 (fn := Try.f57) (nt := 15) rfl rfl rfl rfl ?_
 refine Zk (Zm (Zd rfl rfl (.bool false) rfl (Zb (Zc (Zk (Zm (Zf rfl rfl (Iv n) rfl (Zf rfl rfl (Iv low) rfl ?_))))))))
 by_cases h1 : low ≤ n
 refine Zn (vx := Iv n) (vy := Iv low) rfl rfl (.bool true) rfl rfl (Zhr (by omega)) ?_
 refine Zf rfl rfl (.bool true) rfl (Zf rfl rfl (Iv n) rfl (Zf rfl rfl (Iv high) rfl ?_))
 by_cases h2 : n ≤ high
 refine Zn (vx := Iv n) (vy := Iv high) rfl rfl (.bool true) rfl rfl (Zh8 (by omega)) ?_
 refine Zg rfl rfl (.bool true) rfl (Zd rfl rfl (.bool true) rfl (Zb (Zc (Zq (Zo ?_)))))
 rw [show Za4 n low high = true from Zaf (by omega) (by omega)]
 exact Zi (v := .bool true) rfl rfl rfl (by kernel_rfl) rfl
 refine Zn (vx := Iv n) (vy := Iv high) rfl rfl (.bool false) rfl rfl (Zh7 (by omega)) ?_
 refine Zg rfl rfl (.bool false) rfl (Zd rfl rfl (.bool false) rfl (Zb (Zc (Zq (Zo ?_)))))
 rw [show Za4 n low high = false from Zt (by omega)]
 exact Zi (v := .bool false) rfl rfl rfl (by kernel_rfl) rfl
 refine Zn (vx := Iv n) (vy := Iv low) rfl rfl (.bool false) rfl rfl (Zg4 (by omega)) ?_
 refine Zf rfl rfl (.bool false) rfl (Za rfl rfl (Za rfl rfl (Za rfl rfl (Zg rfl rfl (.bool false) rfl (Zd rfl rfl (.bool false) rfl (Zb (Zc (Zq (Zo ?_)))))))))
 rw [show Za4 n low high = false from Zt (by omega)]
 exact Zi (v := .bool false) rfl rfl rfl (by kernel_rfl) rfl
theorem Zox (x : Item) : Zak Try.prog G 43 [Zai x] [] (.bool (decide (Zbd x))) [] := by
  refine Zb5 (fn := Try.f43) (nt := 12) rfl rfl rfl rfl ?_
  refine Za5 1 (H' := [hole]) rfl ?_
  refine Zk (Zm ?_)
  refine Zch (v := Zai x) (b := bxB 110 (Zr x)) (nid := 0) (H' := [bxB 110 (Zr x)]) rfl rfl rfl (by kernel_rfl) (by kernel_rfl) ?_
  refine Zd rfl rfl (.bool false) rfl (Zb (Zc (Zk (Zm ?_))))
  refine Ze (b := 0) (o := 0) (n := 0) (o' := 0) rfl rfl rfl rfl rfl ?_
  refine Zl (p := pt 0 0) (v := Iv x.epoch) rfl rfl rfl (by kernel_rfl) ?_
  by_cases h1 : 1 ≤ x.epoch
  by_cases h2 : x.epoch ≤ 900000000
  refine Zp ((Zil (G := G) x.epoch 1 900000000).res (congrArg Value.bool (Zaf (by omega) (by omega)))) (vals := [Iv x.epoch, Iv 1, Iv 900000000]) (res' := .bool true) rfl rfl rfl rfl rfl rfl ?_
  refine Zf rfl rfl (.bool true) rfl ?_
  refine Ze (b := 0) (o := 0) (n := 1) (o' := 1) rfl rfl rfl rfl rfl ?_
  refine Zl (p := pt 0 1) (v := Zcn x.entry) rfl rfl rfl (by kernel_rfl) ?_
  refine Zp (Zj4 (G := G) x.entry) (vals := [Zcn x.entry]) (res' := Iv (Zet x.entry)) rfl rfl rfl rfl rfl rfl ?_
  by_cases h3 : (Zet x.entry) = 0
  refine Zn (vx := Iv (Zet x.entry)) (vy := Iv 0) rfl rfl (.bool true) rfl rfl (Zao (by omega)) ?_
  refine Zg rfl rfl (.bool true) rfl (Zd rfl rfl (.bool true) rfl (Zb (Zc (Zq (Zo ?_)))))
  rw [show decide (Zbd x) = true from decide_eq_true ⟨by omega, by omega, Zgk (by omega)⟩]
  exact Zi (v := .bool true) rfl rfl rfl (by kernel_rfl) rfl
  refine Zn (vx := Iv (Zet x.entry)) (vy := Iv 0) rfl rfl (.bool false) rfl rfl (Zbf (by omega)) ?_
  refine Zg rfl rfl (.bool false) rfl (Zd rfl rfl (.bool false) rfl (Zb (Zc (Zq (Zo ?_)))))
  rw [show decide (Zbd x) = false from decide_eq_false (fun q => by first | (have := q.1; have := q.2.1; omega) | (exact Zap (by omega) q.2.2))]
  exact Zi (v := .bool false) rfl rfl rfl (by kernel_rfl) rfl
  refine Zp ((Zil (G := G) x.epoch 1 900000000).res (congrArg Value.bool (Zt (by omega)))) (vals := [Iv x.epoch, Iv 1, Iv 900000000]) (res' := .bool false) rfl rfl rfl rfl rfl rfl ?_
  refine Zf rfl rfl (.bool false) rfl (Za rfl rfl (Za rfl rfl (Za rfl rfl (Za rfl rfl (Zg rfl rfl (.bool false) rfl (Zd rfl rfl (.bool false) rfl (Zb (Zc (Zq (Zo ?_))))))))))
  rw [show decide (Zbd x) = false from decide_eq_false (fun q => by first | (have := q.1; have := q.2.1; omega) | (exact Zap (by omega) q.2.2))]
  exact Zi (v := .bool false) rfl rfl rfl (by kernel_rfl) rfl
  refine Zp ((Zil (G := G) x.epoch 1 900000000).res (congrArg Value.bool (Zt (by omega)))) (vals := [Iv x.epoch, Iv 1, Iv 900000000]) (res' := .bool false) rfl rfl rfl rfl rfl rfl ?_
  refine Zf rfl rfl (.bool false) rfl (Za rfl rfl (Za rfl rfl (Za rfl rfl (Za rfl rfl (Zg rfl rfl (.bool false) rfl (Zd rfl rfl (.bool false) rfl (Zb (Zc (Zq (Zo ?_))))))))))
  rw [show decide (Zbd x) = false from decide_eq_false (fun q => by first | (have := q.1; have := q.2.1; omega) | (exact Zap (by omega) q.2.2))]
  exact Zi (v := .bool false) rfl rfl rfl (by kernel_rfl) rfl
theorem Zhu (l : List Item) (n c : Nat) (hn : l.length = n) (hc : n ≤ c) (hb : n ≤ 1048576) : Zak Try.prog G 27 [slv 0 0 n c] [rwR Zh l] (Iv (Zfc l)) [rwR Zh l] := by
  refine Zb5 (fn := Try.f27) (nt := 27) rfl rfl rfl rfl ?_
  refine Zk (Zm (Zd rfl rfl (Iv 0) rfl (Zb (Zc (Zk (Zm (Zd rfl rfl (Iv 0) rfl (Zb (Zc (Zk (Zk (Zm (Zf rfl rfl (slv 0 0 n c) rfl ?_)))))))))))))
  refine Zci (p := slv 0 0 n c) (v := Iv (n : Nat)) rfl rfl rfl rfl ?_
  refine Zf rfl rfl (Iv 0) rfl (Zb (Zc (Zbm ?_)))
  refine Zex (fun x : Nat × Int => match x with | (i, ep) => [slv 0 0 n c, dead, dead, Iv ep, dead, dead, slv 0 0 n c, Iv (n : Nat), Iv (i : Nat)]) (fun x : Nat × Int => match x with | (i, ep) => [rwR Zh l]) (fun x : Nat × Int => match x with | (i, ep) => Ze9 ep (l.drop i) = Ze9 0 l ∧ i ≤ n) (fun x : Nat × Int => match x with | (i, ep) => n - i) (0, 0) ⟨rfl, by omega⟩ ?_ ?_
  · refine Zba (n := 1) rfl ?_ (by kernel_rfl) (by kernel_rfl)
    repeat (first | exact trivial | refine ⟨.inl rfl, ?_⟩ | refine ⟨.inr ⟨rfl, rfl⟩, ?_⟩ | refine ⟨.inr ⟨congrArg (Value.int .i64) (by first | omega | (dsimp only; omega)), rfl⟩, ?_⟩)
  rintro ⟨i, ep⟩ ⟨hR, hi⟩
  dsimp only at *
  refine Za5 2 (H' := [rwR Zh l, hole, hole]) rfl ?_
  refine Zk (Zm ?_)
  by_cases h1 : (i : Nat) < (n : Nat)
  refine Zn (vx := Iv (i : Nat)) (vy := Iv (n : Nat)) rfl rfl (.bool true) rfl rfl (Zea (by omega)) ?_
  refine Zb (Zc (Zk (Z4 rfl (Z8 (Zc (Zk (Zbm (Zk (Zm ?_)))))))))
  refine Zcq (b := 0) (o := 0) (j := i * 110) (m := n) (c := c) (sz := 110) (i := (i : Nat)) (k := .i64) rfl rfl rfl rfl rfl (by omega) (by omega) (by omega) ?_
  refine Zl (p := pt 0 (i * 110)) (v := Zai (l.getD i default)) rfl rfl rfl (Zdt (n := 0) (m := 110) Zh rfl rfl rfl rfl (by have := hn; omega) (by omega)) ?_
  refine Zbk (b := bxB 110 (Zr (⟨0, (⟨0, 0, 0, ⟨#[]⟩, (⟨(⟨0, 0, 0, dz, 0⟩ : Head), 0, dz⟩ : Signed), (⟨0, 0, 0, 0, dz⟩ : Claim)⟩ : Entry)⟩ : Item))) (nid := 1) (H' := [rwR Zh l, bxB 110 (Zr (⟨0, (⟨0, 0, 0, ⟨#[]⟩, (⟨(⟨0, 0, 0, dz, 0⟩ : Head), 0, dz⟩ : Signed), (⟨0, 0, 0, 0, dz⟩ : Claim)⟩ : Entry)⟩ : Item)), hole]) rfl rfl (by kernel_rfl) (by kernel_rfl) ?_
  refine Zaa (p := pt 1 0) (v := Zai (l.getD i default)) (b := 1) (blk := bxB 110 (Zr (l.getD i default))) (H' := [rwR Zh l, bxB 110 (Zr (l.getD i default)), hole]) rfl rfl rfl (by kernel_rfl) (by kernel_rfl) ?_
  refine Zb (Zc (Zk (Zk (Zm ?_))))
  refine Zl (p := pt 1 0) (v := Zai (l.getD i default)) rfl rfl rfl (by kernel_rfl) ?_
  refine Zp (Zox (G := G) (l.getD i default)) (vals := [Zai (l.getD i default)]) (res' := .bool (decide (Zbd (l.getD i default)))) rfl rfl rfl rfl rfl rfl ?_
  rcases Bool.eq_false_or_eq_true (decide (Zbd (l.getD i default))) with h2 | h2
  refine Zd3 (vx := .bool (decide (Zbd (l.getD i default)))) rfl rfl (.bool false) rfl (Eq.trans Zbx (congrArg (fun b => some (Value.bool !b)) h2)) ?_
  refine Zf rfl rfl (.bool false) rfl ?_
  refine Ze (b := 1) (o := 0) (n := 0) (o' := 0) rfl rfl rfl rfl rfl ?_
  refine Zl (p := pt 1 0) (v := Iv ((l.getD i default).epoch)) rfl rfl rfl (by kernel_rfl) ?_
  refine Zf rfl rfl (Iv ep) rfl ?_
  by_cases h3 : ((l.getD i default).epoch) < ep
  refine Zn (vx := Iv ((l.getD i default).epoch)) (vy := Iv ep) rfl rfl (.bool true) rfl rfl (Zea (by omega)) ?_
  refine Zg rfl rfl (.bool true) rfl (Zb (Zc (Z4 rfl (Zk (Zm (Zd rfl rfl (Iv 100) rfl (Zb (Zc (Zq (Zv (Zz (Zv (Zbi (Zz (Zv (Zo ?_))))))))))))))))
  rw [show Zfc l = 100 from if_neg (fun q => by have q1 := q.1; have q2 := q.2; first | omega | (rw [Zh3 hR (by omega) (fun r => by first | (have := r.2; omega) | exact absurd r.1 (of_decide_eq_false (by assumption)))] at q2; cases q2))]
  exact Zi (v := Iv 100) rfl rfl rfl (by kernel_rfl) rfl
  refine Zn (vx := Iv ((l.getD i default).epoch)) (vy := Iv ep) rfl rfl (.bool false) rfl rfl (Zeb (by omega)) ?_
  refine Zg rfl rfl (.bool false) rfl (Zb (Zc (Zx rfl (Z8 (Zc (Zm ?_))))))
  refine Ze (b := 1) (o := 0) (n := 0) (o' := 0) rfl rfl rfl rfl rfl ?_
  refine Zl (p := pt 1 0) (v := Iv ((l.getD i default).epoch)) rfl rfl rfl (by kernel_rfl) ?_
  refine Zd rfl rfl (Iv ((l.getD i default).epoch)) rfl (Zb (Z2 (Zc (Zm ?_))))
  refine Zn (vx := Iv (i : Nat)) (vy := Iv 1) rfl rfl (Iv ((i : Nat) + 1)) rfl rfl (Zcs (by omega) (by omega) (by omega)) ?_
  refine Zf rfl rfl (Iv ((i : Nat) + 1)) rfl (Zb ?_)
  refine Z7 ⟨((i + 1), ((l.getD i default).epoch)), ⟨Zlg hR (by omega) (of_decide_eq_true (by assumption)) (by omega), by omega⟩, by show n - (i + 1) < n - i; omega, ?_⟩
  refine Zba (n := 1) rfl ?_ (by kernel_rfl) (by kernel_rfl)
  repeat (first | exact trivial | refine ⟨.inl rfl, ?_⟩ | refine ⟨.inr ⟨rfl, rfl⟩, ?_⟩ | refine ⟨.inr ⟨congrArg (Value.int .i64) (by first | omega | (dsimp only; omega)), rfl⟩, ?_⟩)
  refine Zd3 (vx := .bool (decide (Zbd (l.getD i default)))) rfl rfl (.bool true) rfl (Eq.trans Zbx (congrArg (fun b => some (Value.bool !b)) h2)) ?_
  refine Zf rfl rfl (.bool true) rfl (Za rfl rfl (Za rfl rfl (Za rfl rfl (Za rfl rfl (Zg rfl rfl (.bool true) rfl (Zb (Zc (Z4 rfl (Zk (Zm (Zd rfl rfl (Iv 100) rfl (Zb (Zc (Zq (Zv (Zz (Zv (Zbi (Zz (Zv (Zo ?_)))))))))))))))))))))
  rw [show Zfc l = 100 from if_neg (fun q => by have q1 := q.1; have q2 := q.2; first | omega | (rw [Zh3 hR (by omega) (fun r => by first | (have := r.2; omega) | exact absurd r.1 (of_decide_eq_false (by assumption)))] at q2; cases q2))]
  exact Zi (v := Iv 100) rfl rfl rfl (by kernel_rfl) rfl
  refine Zn (vx := Iv (i : Nat)) (vy := Iv (n : Nat)) rfl rfl (.bool false) rfl rfl (Zeb (by omega)) ?_
  refine Zb (Zc (Zk (Zx rfl (Zf9 (Zew (Zde (Zel rfl (Zc (Zk (Zk (Zm (Zf rfl rfl (slv 0 0 n c) rfl ?_))))))))))))
  refine Zci (p := slv 0 0 n c) (v := Iv (n : Nat)) rfl rfl rfl rfl ?_
  by_cases h4 : 2000 < (n : Nat)
  refine Zn (vx := Iv (n : Nat)) (vy := Iv 2000) rfl rfl (.bool true) rfl rfl (Zeq (by omega)) ?_
  refine Zb (Zc (Z4 rfl (Zk (Zm (Zd rfl rfl (Iv 100) rfl (Zb (Zc (Zq (Zv (Zo ?_))))))))))
  rw [show Zfc l = 100 from if_neg (fun q => by have q1 := q.1; have q2 := q.2; first | omega | (rw [Zh3 hR (by omega) (fun r => by first | (have := r.2; omega) | exact absurd r.1 (of_decide_eq_false (by assumption)))] at q2; cases q2))]
  exact Zi (v := Iv 100) rfl rfl rfl (by kernel_rfl) rfl
  refine Zn (vx := Iv (n : Nat)) (vy := Iv 2000) rfl rfl (.bool false) rfl rfl (Zem (by omega)) ?_
  refine Zb (Zc (Zx rfl (Z8 (Zc (Zk (Zm (Zd rfl rfl (Iv 0) rfl (Zb (Zc (Zq (Zo ?_)))))))))))
  rw [show Zfc l = 0 from if_pos ⟨by omega, by rw [← hR, List.drop_of_length_le (by omega)]; rfl⟩]
  exact Zi (v := Iv 0) rfl rfl rfl (by kernel_rfl) rfl
theorem Zne (l : List Item) (n c : Nat) (hn : l.length = n) (hc : n ≤ c) (hb : n ≤ 1048576) : Zak Try.prog G 32 [slv 0 0 n c] [rwR Zh l] (.bool (decide (Zcj l))) [rwR Zh l] := by
  refine Zb5 (fn := Try.f32) (nt := 37) rfl rfl rfl rfl ?_
  refine Zk (Zm (Zd rfl rfl (.bool false) rfl (Zb (Zc (Zk (Zk (Zm (Zf rfl rfl (slv 0 0 n c) rfl ?_))))))))
  refine Zci (p := slv 0 0 n c) (v := Iv (n : Nat)) rfl rfl rfl rfl ?_
  by_cases h1 : 2000 < (n : Nat)
  refine Zn (vx := Iv (n : Nat)) (vy := Iv 2000) rfl rfl (.bool true) rfl rfl (Zeq (by omega)) ?_
  refine Zb (Zc (Z4 rfl (Zk (Zm (Zd rfl rfl (.bool false) rfl (Zb (Zc (Zq (Zv (Zo ?_))))))))))
  rw [show decide (Zcj l) = false from decide_eq_false (fun q => by have q1 := q.1; have q2 := q.2; first | omega | (rw [Zjw hR (by omega) (by first | (exact .inl (of_decide_eq_false (by assumption))) | (exact .inr ⟨by omega, by omega⟩))] at q2; cases q2))]
  exact Zi (v := .bool false) rfl rfl rfl (by kernel_rfl) rfl
  refine Zn (vx := Iv (n : Nat)) (vy := Iv 2000) rfl rfl (.bool false) rfl rfl (Zem (by omega)) ?_
  refine Zb (Zc (Zx rfl (Z8 (Zc (Zk (Zk (Zm (Zd rfl rfl (Iv 0) rfl (Zb (Zc (Zbm ?_)))))))))))
  refine Zex (fun i : Nat => [slv 0 0 n c, dead, dead, Iv (i : Nat), slv 0 0 n c, Iv (n : Nat), .bool false]) (fun i : Nat => [rwR Zh l]) (fun i : Nat => Ze9 (Zmg l i) (l.drop i) = Ze9 0 l ∧ i ≤ n) (fun i : Nat => n - i) 0 ⟨rfl, by omega⟩ ?_ ?_
  · refine Zba (n := 1) rfl ?_ (by kernel_rfl) (by kernel_rfl)
    repeat (first | exact trivial | refine ⟨.inl rfl, ?_⟩ | refine ⟨.inr ⟨rfl, rfl⟩, ?_⟩ | refine ⟨.inr ⟨congrArg (Value.int .i64) (by first | omega | (dsimp only; omega)), rfl⟩, ?_⟩)
  rintro i ⟨hR, hi⟩
  refine Za5 1 (H' := [rwR Zh l, hole]) rfl ?_
  refine Zk (Zk (Zm (Zf rfl rfl (Iv (i : Nat)) rfl (Zf rfl rfl (slv 0 0 n c) rfl ?_))))
  refine Zci (p := slv 0 0 n c) (v := Iv (n : Nat)) rfl rfl rfl rfl ?_
  by_cases h2 : (i : Nat) < (n : Nat)
  refine Zn (vx := Iv (i : Nat)) (vy := Iv (n : Nat)) rfl rfl (.bool true) rfl rfl (Zea (by omega)) ?_
  refine Zb (Zc (Z4 rfl (Z8 (Zc (Zk (Zbm (Zk ?_)))))))
  refine Zgu (by kernel_rfl) ?_
  refine Zf rfl rfl (slv 0 0 n c) rfl (Zf rfl rfl (Iv (i : Nat)) rfl ?_)
  refine Zcq (b := 0) (o := 0) (j := i * 110) (m := n) (c := c) (sz := 110) (i := (i : Nat)) (k := .i64) rfl rfl rfl rfl rfl (by omega) (by omega) (by omega) ?_
  refine Zl (p := pt 0 (i * 110)) (v := Zai (l.getD i default)) rfl rfl rfl (Zdt (n := 0) (m := 110) Zh rfl rfl rfl rfl (by have := hn; omega) (by omega)) ?_
  refine Zp (Znj (G := G) (l.getD i default)) (vals := [Zai (l.getD i default)]) (res' := .bool (decide (Zbd (l.getD i default)))) rfl rfl rfl rfl rfl rfl ?_
  rcases Bool.eq_false_or_eq_true (decide (Zbd (l.getD i default))) with h3 | h3
  refine Zd3 (vx := .bool (decide (Zbd (l.getD i default)))) rfl rfl (.bool false) rfl (Eq.trans Zbx (congrArg (fun b => some (Value.bool !b)) h3)) ?_
  refine Zf rfl rfl (.bool false) rfl (Zf rfl rfl (Iv (i : Nat)) rfl ?_)
  by_cases h4 : 0 < (i : Nat)
  refine Zn (vx := Iv (i : Nat)) (vy := Iv 0) rfl rfl (.bool true) rfl rfl (Zeq (by omega)) ?_
  refine Zf rfl rfl (.bool true) rfl (Zf rfl rfl (slv 0 0 n c) rfl (Zf rfl rfl (Iv (i : Nat)) rfl ?_))
  refine Zn (vx := Iv (i : Nat)) (vy := Iv 1) rfl rfl (Iv ((i : Nat) - 1)) rfl rfl (Zhz (by omega) (by omega) (by omega)) ?_
  refine Zcq (b := 0) (o := 0) (j := (i - 1) * 110) (m := n) (c := c) (sz := 110) (i := (i : Nat) - 1) (k := .i64) rfl rfl rfl rfl rfl (by omega) (by omega) (by omega) ?_
  refine Ze (b := 0) (o := (i - 1) * 110) (n := 0) (o' := (i - 1) * 110) rfl rfl rfl rfl (by omega) ?_
  refine Zl (p := pt 0 ((i - 1) * 110)) (v := Iv ((l.getD (i - 1) default).epoch)) rfl rfl rfl (Zec Zh (l := l) (i := i - 1) (k := 0) (m := 110) rfl rfl rfl rfl (by have := hn; omega) (by omega) (by kernel_rfl) rfl) ?_
  refine Zf rfl rfl (slv 0 0 n c) rfl (Zf rfl rfl (Iv (i : Nat)) rfl ?_)
  refine Zcq (b := 0) (o := 0) (j := i * 110) (m := n) (c := c) (sz := 110) (i := (i : Nat)) (k := .i64) rfl rfl rfl rfl rfl (by omega) (by omega) (by omega) ?_
  refine Ze (b := 0) (o := i * 110) (n := 0) (o' := i * 110) rfl rfl rfl rfl (by omega) ?_
  refine Zl (p := pt 0 (i * 110)) (v := Iv ((l.getD i default).epoch)) rfl rfl rfl (Zec Zh (l := l) (i := i) (k := 0) (m := 110) rfl rfl rfl rfl (by have := hn; omega) (by omega) (by kernel_rfl) rfl) ?_
  by_cases h5 : ((l.getD i default).epoch) < ((l.getD (i - 1) default).epoch)
  refine Zn (vx := Iv ((l.getD (i - 1) default).epoch)) (vy := Iv ((l.getD i default).epoch)) rfl rfl (.bool true) rfl rfl (Zeq (by omega)) ?_
  refine Zg rfl rfl (.bool true) rfl (Zg rfl rfl (.bool true) rfl ?_)
  refine Zct (Zbh [[], [], [0, 1], [0, 1, 2], [0, 1, 2, 3], [0, 1, 2, 3, 4], [0, 1, 2, 3, 4, 5], [0, 1, 2, 3, 4, 5, 6], [0, 1, 2, 3, 4, 5, 6, 7], [0, 1, 2, 3, 4, 5, 6, 7, 8], [0, 1, 2, 3, 4, 5, 6, 7, 8, 9], [0, 1, 2, 3, 4, 5, 6, 7, 8, 9], [0, 1, 2, 3, 4, 5, 6, 7, 8, 9, 11], [0, 1, 2, 3, 4, 5, 6, 7, 8, 9, 10, 11, 12], [0, 1, 2, 3, 4, 5, 6, 7, 8, 9, 10, 11, 12, 13], [0, 1, 2, 3, 4, 5, 6, 7, 8, 9, 10, 11, 12, 13, 14], [0, 1, 2, 3, 4, 5, 6, 7, 8, 9], [0, 1, 2, 3, 4, 5, 6, 7, 8, 9], [0, 1, 2, 3, 4, 5, 6, 7, 8, 9, 16, 17], [0, 1, 2, 3, 4, 5, 6, 7, 8, 9, 16, 17, 18], [0, 1, 2, 3, 4, 5, 6, 7, 8, 9, 16, 17, 18, 19], [0, 1, 2, 3, 4, 5, 6, 7, 8, 9, 10, 11, 12, 13, 14, 15, 16, 17, 18, 19, 20], [0, 1, 2, 3, 4, 5, 6, 7, 8, 9, 10, 11, 12, 13, 14, 15, 16, 17, 18, 19, 20, 21], [0, 1, 2, 3, 4, 5, 6, 7, 8, 9, 10, 11, 12, 13, 14, 15, 16, 17, 18, 19, 20, 21, 22]] (by kernel_rfl) (by kernel_rfl)) ?_
  refine Zc (Z4 rfl (Zk (Zm (Zd rfl rfl (.bool false) rfl (Zb (Zc (Zq (Zz (Zv (Zbi (Zz (Zv (Zo ?_)))))))))))))
  rw [show decide (Zcj l) = false from decide_eq_false (fun q => by have q1 := q.1; have q2 := q.2; first | omega | (rw [Zjw hR (by omega) (by first | (exact .inl (of_decide_eq_false (by assumption))) | (exact .inr ⟨by omega, by omega⟩))] at q2; cases q2))]
  exact Zi (v := .bool false) rfl rfl rfl (by kernel_rfl) rfl
  refine Zn (vx := Iv ((l.getD (i - 1) default).epoch)) (vy := Iv ((l.getD i default).epoch)) rfl rfl (.bool false) rfl rfl (Zem (by omega)) ?_
  refine Zg rfl rfl (.bool false) rfl (Zg rfl rfl (.bool false) rfl ?_)
  refine Zct (Zbh [[], [], [0, 1], [0, 1, 2], [0, 1, 2, 3], [0, 1, 2, 3, 4], [0, 1, 2, 3, 4, 5], [0, 1, 2, 3, 4, 5, 6], [0, 1, 2, 3, 4, 5, 6, 7], [0, 1, 2, 3, 4, 5, 6, 7, 8], [0, 1, 2, 3, 4, 5, 6, 7, 8, 9], [0, 1, 2, 3, 4, 5, 6, 7, 8, 9], [0, 1, 2, 3, 4, 5, 6, 7, 8, 9, 11], [0, 1, 2, 3, 4, 5, 6, 7, 8, 9, 10, 11, 12], [0, 1, 2, 3, 4, 5, 6, 7, 8, 9, 10, 11, 12, 13], [0, 1, 2, 3, 4, 5, 6, 7, 8, 9, 10, 11, 12, 13, 14], [0, 1, 2, 3, 4, 5, 6, 7, 8, 9], [0, 1, 2, 3, 4, 5, 6, 7, 8, 9], [0, 1, 2, 3, 4, 5, 6, 7, 8, 9, 16, 17], [0, 1, 2, 3, 4, 5, 6, 7, 8, 9, 16, 17, 18], [0, 1, 2, 3, 4, 5, 6, 7, 8, 9, 16, 17, 18, 19], [0, 1, 2, 3, 4, 5, 6, 7, 8, 9, 10, 11, 12, 13, 14, 15, 16, 17, 18, 19, 20], [0, 1, 2, 3, 4, 5, 6, 7, 8, 9, 10, 11, 12, 13, 14, 15, 16, 17, 18, 19, 20, 21], [0, 1, 2, 3, 4, 5, 6, 7, 8, 9, 10, 11, 12, 13, 14, 15, 16, 17, 18, 19, 20, 21, 22]] (by kernel_rfl) (by kernel_rfl)) ?_
  refine Zc (Zx rfl (Z8 (Z2 (Zc (Zm (Zf rfl rfl (Iv (i : Nat)) rfl ?_))))))
  refine Zn (vx := Iv (i : Nat)) (vy := Iv 1) rfl rfl (Iv ((i : Nat) + 1)) rfl rfl (Zcs (by omega) (by omega) (by omega)) ?_
  refine Zd rfl rfl (Iv ((i : Nat) + 1)) rfl (Zb ?_)
  refine Z7 ⟨(i + 1), ⟨Zll hR (by omega) (of_decide_eq_true (by assumption)) (by first | (left; omega) | (right; omega)), by omega⟩, by show n - (i + 1) < n - i; omega, ?_⟩
  refine Zba (n := 1) rfl ?_ (by kernel_rfl) (by kernel_rfl)
  repeat (first | exact trivial | refine ⟨.inl rfl, ?_⟩ | refine ⟨.inr ⟨rfl, rfl⟩, ?_⟩ | refine ⟨.inr ⟨congrArg (Value.int .i64) (by first | omega | (dsimp only; omega)), rfl⟩, ?_⟩)
  refine Zn (vx := Iv (i : Nat)) (vy := Iv 0) rfl rfl (.bool false) rfl rfl (Zem (by omega)) ?_
  refine Zf rfl rfl (.bool false) rfl (Za rfl rfl (Za rfl rfl (Za rfl rfl (Za rfl rfl (Za rfl rfl (Za rfl rfl (Za rfl rfl (Za rfl rfl (Za rfl rfl (Za rfl rfl (Za rfl rfl (Za rfl rfl (Zg rfl rfl (.bool false) rfl (Zg rfl rfl (.bool false) rfl ?_))))))))))))))
  refine Zct (Zbh [[], [], [0, 1], [0, 1, 2], [0, 1, 2, 3], [0, 1, 2, 3, 4], [0, 1, 2, 3, 4, 5], [0, 1, 2, 3, 4, 5, 6], [0, 1, 2, 3, 4, 5, 6, 7], [0, 1, 2, 3, 4, 5, 6, 7, 8], [0, 1, 2, 3, 4, 5, 6, 7, 8, 9], [0, 1, 2, 3, 4, 5, 6, 7, 8, 9], [0, 1, 2, 3, 4, 5, 6, 7, 8, 9, 11], [0, 1, 2, 3, 4, 5, 6, 7, 8, 9, 10, 11, 12], [0, 1, 2, 3, 4, 5, 6, 7, 8, 9, 10, 11, 12, 13], [0, 1, 2, 3, 4, 5, 6, 7, 8, 9, 10, 11, 12, 13, 14], [0, 1, 2, 3, 4, 5, 6, 7, 8, 9], [0, 1, 2, 3, 4, 5, 6, 7, 8, 9], [0, 1, 2, 3, 4, 5, 6, 7, 8, 9, 16, 17], [0, 1, 2, 3, 4, 5, 6, 7, 8, 9, 16, 17, 18], [0, 1, 2, 3, 4, 5, 6, 7, 8, 9, 16, 17, 18, 19], [0, 1, 2, 3, 4, 5, 6, 7, 8, 9, 10, 11, 12, 13, 14, 15, 16, 17, 18, 19, 20], [0, 1, 2, 3, 4, 5, 6, 7, 8, 9, 10, 11, 12, 13, 14, 15, 16, 17, 18, 19, 20, 21], [0, 1, 2, 3, 4, 5, 6, 7, 8, 9, 10, 11, 12, 13, 14, 15, 16, 17, 18, 19, 20, 21, 22]] (by kernel_rfl) (by kernel_rfl)) ?_
  refine Zc (Zx rfl (Z8 (Z2 (Zc (Zm (Zf rfl rfl (Iv (i : Nat)) rfl ?_))))))
  refine Zn (vx := Iv (i : Nat)) (vy := Iv 1) rfl rfl (Iv ((i : Nat) + 1)) rfl rfl (Zcs (by omega) (by omega) (by omega)) ?_
  refine Zd rfl rfl (Iv ((i : Nat) + 1)) rfl (Zb ?_)
  refine Z7 ⟨(i + 1), ⟨Zll hR (by omega) (of_decide_eq_true (by assumption)) (by first | (left; omega) | (right; omega)), by omega⟩, by show n - (i + 1) < n - i; omega, ?_⟩
  refine Zba (n := 1) rfl ?_ (by kernel_rfl) (by kernel_rfl)
  repeat (first | exact trivial | refine ⟨.inl rfl, ?_⟩ | refine ⟨.inr ⟨rfl, rfl⟩, ?_⟩ | refine ⟨.inr ⟨congrArg (Value.int .i64) (by first | omega | (dsimp only; omega)), rfl⟩, ?_⟩)
  refine Zd3 (vx := .bool (decide (Zbd (l.getD i default)))) rfl rfl (.bool true) rfl (Eq.trans Zbx (congrArg (fun b => some (Value.bool !b)) h3)) ?_
  refine Zf rfl rfl (.bool true) rfl (Za rfl rfl (Za rfl rfl (Za rfl rfl (Za rfl rfl (Za rfl rfl (Za rfl rfl (Za rfl rfl (Za rfl rfl (Za rfl rfl (Za rfl rfl (Za rfl rfl (Za rfl rfl (Za rfl rfl (Za rfl rfl (Za rfl rfl (Za rfl rfl (Zg rfl rfl (.bool true) rfl ?_)))))))))))))))))
  refine Zct (Zbh [[], [], [0, 1], [0, 1, 2], [0, 1, 2, 3], [0, 1, 2, 3, 4], [0, 1, 2, 3, 4, 5], [0, 1, 2, 3, 4, 5, 6], [0, 1, 2, 3, 4, 5, 6, 7], [0, 1, 2, 3, 4, 5, 6, 7, 8], [0, 1, 2, 3, 4, 5, 6, 7, 8, 9], [0, 1, 2, 3, 4, 5, 6, 7, 8, 9], [0, 1, 2, 3, 4, 5, 6, 7, 8, 9, 11], [0, 1, 2, 3, 4, 5, 6, 7, 8, 9, 10, 11, 12], [0, 1, 2, 3, 4, 5, 6, 7, 8, 9, 10, 11, 12, 13], [0, 1, 2, 3, 4, 5, 6, 7, 8, 9, 10, 11, 12, 13, 14], [0, 1, 2, 3, 4, 5, 6, 7, 8, 9], [0, 1, 2, 3, 4, 5, 6, 7, 8, 9], [0, 1, 2, 3, 4, 5, 6, 7, 8, 9, 16, 17], [0, 1, 2, 3, 4, 5, 6, 7, 8, 9, 16, 17, 18], [0, 1, 2, 3, 4, 5, 6, 7, 8, 9, 16, 17, 18, 19], [0, 1, 2, 3, 4, 5, 6, 7, 8, 9, 10, 11, 12, 13, 14, 15, 16, 17, 18, 19, 20], [0, 1, 2, 3, 4, 5, 6, 7, 8, 9, 10, 11, 12, 13, 14, 15, 16, 17, 18, 19, 20, 21], [0, 1, 2, 3, 4, 5, 6, 7, 8, 9, 10, 11, 12, 13, 14, 15, 16, 17, 18, 19, 20, 21, 22]] (by kernel_rfl) (by kernel_rfl)) ?_
  refine Zc (Z4 rfl (Zk (Zm (Zd rfl rfl (.bool false) rfl (Zb (Zc (Zq (Zz (Zv (Zbi (Zz (Zv (Zo ?_)))))))))))))
  rw [show decide (Zcj l) = false from decide_eq_false (fun q => by have q1 := q.1; have q2 := q.2; first | omega | (rw [Zjw hR (by omega) (by first | (exact .inl (of_decide_eq_false (by assumption))) | (exact .inr ⟨by omega, by omega⟩))] at q2; cases q2))]
  exact Zi (v := .bool false) rfl rfl rfl (by kernel_rfl) rfl
  refine Zn (vx := Iv (i : Nat)) (vy := Iv (n : Nat)) rfl rfl (.bool false) rfl rfl (Zeb (by omega)) ?_
  refine Zb (Zc (Zx rfl (Zf9 (Zew (Zde (Zel rfl (Zc (Zk (Zm (Zd rfl rfl (.bool true) rfl (Zb (Zc (Zq (Zo ?_))))))))))))))
  rw [show decide (Zcj l) = true from decide_eq_true ⟨by omega, by rw [← hR, List.drop_of_length_le (by omega)]; rfl⟩]
  exact Zi (v := .bool true) rfl rfl rfl (by kernel_rfl) rfl
theorem Zmd (l : List Item) (n c : Nat) (hn : l.length = n) (hc : n ≤ c) (hb : n ≤ 9223372036854775807) : Zak Try.prog G 23 [slv 0 0 n c] [rwR Zh l] (.bool (Zga l)) [rwR Zh l] := by
  refine Zb5 (fn := Try.f23) (nt := 21) rfl rfl rfl rfl ?_
  refine Zk (Zm (Zd rfl rfl (.bool false) rfl (Zb (Zc (Zk (Zk (Zm (Zf rfl rfl (slv 0 0 n c) rfl ?_))))))))
  refine Zci (p := slv 0 0 n c) (v := Iv (n : Nat)) rfl rfl rfl rfl ?_
  by_cases h1 : 60 < (n : Nat)
  refine Zn (vx := Iv (n : Nat)) (vy := Iv 60) rfl rfl (.bool true) rfl rfl (Zeq (by omega)) ?_
  refine Zb (Zc (Z4 rfl (Zk (Zm (Zd rfl rfl (.bool true) rfl (Zb (Zc (Zq (Zv (Zo ?_))))))))))
  rw [show Zga l = true from by unfold Zga; first | (rw [decide_eq_true (by omega : 60 < l.length)]; rfl) | (rw [Zq7 hR (by omega) (decide_eq_true (by omega)), Bool.or_true])]
  exact Zi (v := .bool true) rfl rfl rfl (by kernel_rfl) rfl
  refine Zn (vx := Iv (n : Nat)) (vy := Iv 60) rfl rfl (.bool false) rfl rfl (Zem (by omega)) ?_
  refine Zb (Zc (Zx rfl (Z8 (Zc (Zk (Zk (Zm (Zd rfl rfl (Iv 0) rfl (Zb (Zc (Zbm ?_)))))))))))
  refine Zex (fun i : Nat => [slv 0 0 n c, dead, dead, Iv (i : Nat), slv 0 0 n c, Iv (n : Nat), .bool false]) (fun i : Nat => [rwR Zh l]) (fun i : Nat => (l.drop i).any Zwa = l.any Zwa ∧ i ≤ n) (fun i : Nat => n - i) 0 ⟨rfl, by omega⟩ ?_ ?_
  · refine Zba (n := 1) rfl ?_ (by kernel_rfl) (by kernel_rfl)
    repeat (first | exact trivial | refine ⟨.inl rfl, ?_⟩ | refine ⟨.inr ⟨rfl, rfl⟩, ?_⟩ | refine ⟨.inr ⟨congrArg (Value.int .i64) (by first | omega | (dsimp only; omega)), rfl⟩, ?_⟩)
  rintro i ⟨hR, hi⟩
  refine Za5 1 (H' := [rwR Zh l, hole]) rfl ?_
  refine Zk (Zk (Zm (Zf rfl rfl (Iv (i : Nat)) rfl (Zf rfl rfl (slv 0 0 n c) rfl ?_))))
  refine Zci (p := slv 0 0 n c) (v := Iv (n : Nat)) rfl rfl rfl rfl ?_
  by_cases h2 : (i : Nat) < (n : Nat)
  refine Zn (vx := Iv (i : Nat)) (vy := Iv (n : Nat)) rfl rfl (.bool true) rfl rfl (Zea (by omega)) ?_
  refine Zb (Zc (Z4 rfl (Z8 (Zc (Zk (Zbm (Zk (Zm (Zf rfl rfl (slv 0 0 n c) rfl (Zf rfl rfl (Iv (i : Nat)) rfl ?_))))))))))
  refine Zcq (b := 0) (o := 0) (j := i * 110) (m := n) (c := c) (sz := 110) (i := (i : Nat)) (k := .i64) rfl rfl rfl rfl rfl (by omega) (by omega) (by omega) ?_
  refine Ze (b := 0) (o := i * 110) (n := 1) (o' := i * 110 + 1) rfl rfl rfl rfl (by omega) ?_
  refine Ze (b := 0) (o := i * 110 + 1) (n := 3) (o' := i * 110 + 4) rfl rfl rfl rfl (by omega) ?_
  refine Zl (p := pt 0 (i * 110 + 4)) (v := .string (((l.getD i default).entry).text)) rfl rfl rfl (Zec Zh (l := l) (i := i) (k := 4) (m := 110) rfl rfl rfl rfl (by have := hn; omega) (by omega) (by kernel_rfl) rfl) ?_
  refine Zci (p := .string (((l.getD i default).entry).text)) (v := Iv ((((((l.getD i default).entry).text).size) : Nat) : Int)) rfl rfl rfl rfl ?_
  by_cases h3 : 1000 < ((((((l.getD i default).entry).text).size) : Nat) : Int)
  refine Zn (vx := Iv ((((((l.getD i default).entry).text).size) : Nat) : Int)) (vy := Iv 1000) rfl rfl (.bool true) rfl rfl (Zeq (by omega)) ?_
  refine Zb (Zc (Z4 rfl (Zk (Zm (Zd rfl rfl (.bool true) rfl (Zb (Zc (Zq (Zz (Zv (Zbi (Zz (Zv (Zo ?_))))))))))))))
  rw [show Zga l = true from by unfold Zga; first | (rw [decide_eq_true (by omega : 60 < l.length)]; rfl) | (rw [Zq7 hR (by omega) (decide_eq_true (by omega)), Bool.or_true])]
  exact Zi (v := .bool true) rfl rfl rfl (by kernel_rfl) rfl
  refine Zn (vx := Iv ((((((l.getD i default).entry).text).size) : Nat) : Int)) (vy := Iv 1000) rfl rfl (.bool false) rfl rfl (Zem (by omega)) ?_
  refine Zb (Zc (Zx rfl (Z8 (Z2 (Zc (Zm (Zf rfl rfl (Iv (i : Nat)) rfl ?_)))))))
  refine Zn (vx := Iv (i : Nat)) (vy := Iv 1) rfl rfl (Iv ((i : Nat) + 1)) rfl rfl (Zcs (by omega) (by omega) (by omega)) ?_
  refine Zd rfl rfl (Iv ((i : Nat) + 1)) rfl (Zb ?_)
  refine Z7 ⟨(i + 1), ⟨Ztl hR (by omega) (decide_eq_false (by omega)), by omega⟩, by show n - (i + 1) < n - i; omega, ?_⟩
  refine Zba (n := 1) rfl ?_ (by kernel_rfl) (by kernel_rfl)
  repeat (first | exact trivial | refine ⟨.inl rfl, ?_⟩ | refine ⟨.inr ⟨rfl, rfl⟩, ?_⟩ | refine ⟨.inr ⟨congrArg (Value.int .i64) (by first | omega | (dsimp only; omega)), rfl⟩, ?_⟩)
  refine Zn (vx := Iv (i : Nat)) (vy := Iv (n : Nat)) rfl rfl (.bool false) rfl rfl (Zeb (by omega)) ?_
  refine Zb (Zc (Zx rfl (Zf9 (Zew (Zde (Zel rfl (Zc (Zk (Zm (Zd rfl rfl (.bool false) rfl (Zb (Zc (Zq (Zo ?_))))))))))))))
  rw [show Zga l = false from by unfold Zga; rw [decide_eq_false (by omega : ¬ 60 < l.length), Bool.false_or, ← hR, List.drop_of_length_le (by omega)]; rfl]
  exact Zi (v := .bool false) rfl rfl rfl (by kernel_rfl) rfl
theorem Zpx (l m : List Item) (n c p d : Nat) (hn : l.length = n) (hm : m.length = p) (hc : n ≤ c) (hd : p ≤ d) (hb : n ≤ 1048576) (hb2 : p ≤ 1048576) : Zak Try.prog G 22 [slv 0 0 n c, slv 1 0 p d] [rwR Zh l, rwR Zh m] (.bool (Zdj l m)) [rwR Zh l, rwR Zh m] := by
  refine Zb5 (fn := Try.f22) (nt := 26) rfl rfl rfl rfl ?_
  refine Zk (Zm (Zd rfl rfl (.bool false) rfl (Zb (Zc (Zk (Zk (Zm (Zf rfl rfl (slv 0 0 n c) rfl ?_))))))))
  refine Zci (p := slv 0 0 n c) (v := Iv (n : Nat)) rfl rfl rfl rfl ?_
  refine Zf rfl rfl (slv 1 0 p d) rfl ?_
  refine Zci (p := slv 1 0 p d) (v := Iv (p : Nat)) rfl rfl rfl rfl ?_
  by_cases h1 : (n : Nat) ≠ (p : Nat)
  refine Zn (vx := Iv (n : Nat)) (vy := Iv (p : Nat)) rfl rfl (.bool true) rfl rfl (Zed (by omega)) ?_
  refine Zb (Zc (Z4 rfl (Zk (Zm (Zd rfl rfl (.bool false) rfl (Zb (Zc (Zq (Zv (Zo ?_))))))))))
  rw [show Zdj l m = false from by first | exact Zme (by omega) | exact Zq6 i (by omega) (by assumption)]
  exact Zi (v := .bool false) rfl rfl rfl (by kernel_rfl) rfl
  refine Zn (vx := Iv (n : Nat)) (vy := Iv (p : Nat)) rfl rfl (.bool false) rfl rfl (Zd4 (by omega)) ?_
  refine Zb (Zc (Zx rfl (Z8 (Zc (Zk (Zk (Zm (Zd rfl rfl (Iv 0) rfl (Zb (Zc (Zbm ?_)))))))))))
  refine Zex (fun i : Nat => [slv 0 0 n c, slv 1 0 p d, dead, dead, dead, Iv (i : Nat), slv 0 0 n c, Iv (n : Nat), slv 1 0 p d, Iv (p : Nat), .bool false]) (fun i : Nat => [rwR Zh l, rwR Zh m]) (fun i : Nat => (∀ j, j < i → Z5 (l.getD j default) (m.getD j default) = true) ∧ i ≤ n) (fun i : Nat => n - i) 0 ⟨fun _ h => absurd h (by omega), by omega⟩ ?_ ?_
  · refine Zba (n := 2) rfl ?_ (by kernel_rfl) (by kernel_rfl)
    repeat (first | exact trivial | refine ⟨.inl rfl, ?_⟩ | refine ⟨.inr ⟨rfl, rfl⟩, ?_⟩ | refine ⟨.inr ⟨congrArg (Value.int .i64) (by first | omega | (dsimp only; omega)), rfl⟩, ?_⟩)
  rintro i ⟨hR, hi⟩
  refine Za5 1 (H' := [rwR Zh l, rwR Zh m, hole]) rfl ?_
  refine Zk (Zk (Zm (Zf rfl rfl (Iv (i : Nat)) rfl (Zf rfl rfl (slv 0 0 n c) rfl ?_))))
  refine Zci (p := slv 0 0 n c) (v := Iv (n : Nat)) rfl rfl rfl rfl ?_
  by_cases h2 : (i : Nat) < (n : Nat)
  refine Zn (vx := Iv (i : Nat)) (vy := Iv (n : Nat)) rfl rfl (.bool true) rfl rfl (Zea (by omega)) ?_
  refine Zb (Zc (Z4 rfl (Z8 (Zc (Zk (Zbm (Zk ?_)))))))
  refine Zd6 (by kernel_rfl) ?_
  refine Zf rfl rfl (slv 0 0 n c) rfl (Zf rfl rfl (Iv (i : Nat)) rfl ?_)
  refine Zcq (b := 0) (o := 0) (j := i * 110) (m := n) (c := c) (sz := 110) (i := (i : Nat)) (k := .i64) rfl rfl rfl rfl rfl (by omega) (by omega) (by omega) ?_
  refine Zl (p := pt 0 (i * 110)) (v := Zai (l.getD i default)) rfl rfl rfl (Zdt (n := 0) (m := 110) Zh rfl rfl rfl rfl (by have := hn; omega) (by omega)) ?_
  refine Zf rfl rfl (slv 1 0 p d) rfl (Zf rfl rfl (Iv (i : Nat)) rfl ?_)
  refine Zcq (b := 1) (o := 0) (j := i * 110) (m := p) (c := d) (sz := 110) (i := (i : Nat)) (k := .i64) rfl rfl rfl rfl rfl (by omega) (by omega) (by omega) ?_
  refine Zl (p := pt 1 (i * 110)) (v := Zai (m.getD i default)) rfl rfl rfl (Zdt (n := 0) (m := 110) Zh rfl rfl rfl rfl (by have := hm; omega) (by omega)) ?_
  rcases Bool.eq_false_or_eq_true (Z5 (l.getD i default) (m.getD i default)) with h3 | h3
  refine Zn (vx := Zai (l.getD i default)) (vy := Zai (m.getD i default)) rfl rfl (.bool false) rfl rfl (Eq.trans (Zph (l.getD i default) (m.getD i default)) (by rw [h3] <;> rfl)) ?_
  refine Zbe (Zan [[], [], [0, 1], [0, 1, 2], [], [], [4, 5], [4, 5, 6], [0, 1, 2, 3, 4, 5, 6, 7]] (by kernel_rfl) (by kernel_rfl)) ?_
  refine Zc (Zx rfl (Z8 (Z2 (Zc (Zm (Zf rfl rfl (Iv (i : Nat)) rfl ?_))))))
  refine Zn (vx := Iv (i : Nat)) (vy := Iv 1) rfl rfl (Iv ((i : Nat) + 1)) rfl rfl (Zcs (by omega) (by omega) (by omega)) ?_
  refine Zd rfl rfl (Iv ((i : Nat) + 1)) rfl (Zb ?_)
  refine Z7 ⟨(i + 1), ⟨fun j hj => by rcases Nat.lt_or_ge j i with h | h; exact hR j h; obtain rfl : j = i := (by omega); assumption, by omega⟩, by show n - (i + 1) < n - i; omega, ?_⟩
  refine Zba (n := 2) rfl ?_ (by kernel_rfl) (by kernel_rfl)
  repeat (first | exact trivial | refine ⟨.inl rfl, ?_⟩ | refine ⟨.inr ⟨rfl, rfl⟩, ?_⟩ | refine ⟨.inr ⟨congrArg (Value.int .i64) (by first | omega | (dsimp only; omega)), rfl⟩, ?_⟩)
  refine Zn (vx := Zai (l.getD i default)) (vy := Zai (m.getD i default)) rfl rfl (.bool true) rfl rfl (Eq.trans (Zph (l.getD i default) (m.getD i default)) (by rw [h3] <;> rfl)) ?_
  refine Zbe (Zan [[], [], [0, 1], [0, 1, 2], [], [], [4, 5], [4, 5, 6], [0, 1, 2, 3, 4, 5, 6, 7]] (by kernel_rfl) (by kernel_rfl)) ?_
  refine Zc (Z4 rfl (Zk (Zm (Zd rfl rfl (.bool false) rfl (Zb (Zc (Zq (Zz (Zv (Zbi (Zz (Zv (Zo ?_)))))))))))))
  rw [show Zdj l m = false from by first | exact Zme (by omega) | exact Zq6 i (by omega) (by assumption)]
  exact Zi (v := .bool false) rfl rfl rfl (by kernel_rfl) rfl
  refine Zn (vx := Iv (i : Nat)) (vy := Iv (n : Nat)) rfl rfl (.bool false) rfl rfl (Zeb (by omega)) ?_
  refine Zb (Zc (Zx rfl (Zf9 (Zew (Zde (Zel rfl (Zc (Zk (Zm (Zd rfl rfl (.bool true) rfl (Zb (Zc (Zq (Zo ?_))))))))))))))
  rw [show Zdj l m = true from Zqy (by omega) (fun j hj => hR j (by omega))]
  exact Zi (v := .bool true) rfl rfl rfl (by kernel_rfl) rfl
theorem Zr1 (l : List Item) (n c : Nat) (hn : l.length = n) (hc : n ≤ c) (hb : n ≤ 1048576) : Zak Try.prog G 24 [slv 0 0 n c] [rwR Zh l] (slv 1 0 n n) [rwR Zh l, rwB Zh l] := by
  refine Zb5 (fn := Try.f24) (nt := 8) rfl rfl rfl rfl ?_
  refine Za5 1 (H' := [rwR Zh l, hole]) rfl ?_
  refine Zk (Zm (Zd rfl rfl (.slice none 0 0) rfl (Zb (Zc (Zk (Zm (Zd rfl rfl (.slice none 0 0) rfl (Zb (Zc (Zk ?_))))))))))
  refine Zfq (Zcz.nilTmp (i := 3) (b := 1) true 110 rfl (by decide) rfl) ?_
  refine Zm (Zf rfl rfl (slv 1 0 0 0) rfl (Zf rfl rfl (slv 0 0 n c) rfl ?_))
  have hl2 : ([] ++ l).length = n := by have := hn; first | (rw [List.length_append]; omega) | (simp; omega) | simp
  refine Zgi (p := slv 1 0 0 0) (q := slv 0 0 n c) (v := slv 1 0 n n) (b := 1) (blk := rwB Zh ([] ++ l)) (H' := [rwR Zh l, rwB Zh ([] ++ l)]) rfl rfl rfl (.inl ⟨_, rfl⟩) rfl rfl (Zi4 Zh (by_ := 216) (k := n) (n' := n) (ms := l) (fun _ => rfl) rfl rfl (Zg8 Zh rfl rfl (by have := hn; omega)) rfl rfl rfl (by omega) (by decide) (by omega)) rfl (by kernel_rfl) ?_
  refine Zd rfl rfl (slv 1 0 n n) rfl (Zb (Zc (Zk (Zm (Zf rfl rfl (slv 1 0 n n) rfl (Zd rfl rfl (slv 1 0 n n) rfl (Zb (Zc (Zq (Zo ?_))))))))))
  exact Zcc [0, 1] (v := slv 1 0 n n) rfl (by kernel_rfl) rfl rfl (by decide) (by simp [Zc6, rwB, rwR, Zh]) ⟨rfl, rfl, rfl, by first | omega | exact Nat.le_refl _ | exact Nat.zero_le _ | (dsimp only; omega), by first | omega | exact Nat.le_refl _ | exact Nat.zero_le _ | (dsimp only; omega)⟩
end Go.Flat
