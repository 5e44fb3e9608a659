/- Walks. -/
import Derived.Test.YtoafdomlefoenaaE2
set_option linter.unusedVariables false
set_option linter.unusedSimpArgs false
set_option maxRecDepth 20000
namespace Go.Flat
open Go.Proofs
variable {G : Glob}
theorem Zl8 (l : List Item) (i : Nat) (h : i < l.length) : l.drop i = l.getD i default :: l.drop (i + 1) := by
 rw [List.drop_eq_getElem_cons h, List.getD_eq_getElem?_getD, List.getElem?_eq_getElem h]; rfl
def Zgj : Int → List Item → Bool
  | _, [] => true
  | ep, x :: l => decide (Zbb x) && decide (ep ≤ x.epoch) && Zgj x.epoch l
def Zb2 (l : List Item) : Prop := l.length ≤ 2000 ∧ Zgj 0 l = true
instance (l : List Item) : Decidable (Zb2 l) := inferInstanceAs (Decidable (_ ∧ _))
def Zgm (l : List Item) : Int := if Zb2 l then 0 else 100
theorem Za5 {l : List Item} (h : Zgm l = 0) : Zb2 l := by
 unfold Zgm at h
 split at h
 ·assumption
 ·omega
theorem Z6 {l : List Item} (h : ¬ Zgm l = 0) : ¬ Zb2 l := fun q => h (if_pos q)
theorem Zmu {ep : Int} {l : List Item} {i : Nat} {R : Bool} (hR : Zgj ep (l.drop i) = R) (hi : i < l.length) (h1 : Zbb (l.getD i default)) (h2 : ep ≤ (l.getD i default).epoch) : Zgj (l.getD i default).epoch (l.drop (i + 1)) = R := by
 rw [Zl8 l i hi, Zgj, decide_eq_true h1, decide_eq_true h2] at hR; simpa using hR
theorem Zi7 {ep : Int} {l : List Item} {i : Nat} {R : Bool} (hR : Zgj ep (l.drop i) = R) (hi : i < l.length) (h : ¬ (Zbb (l.getD i default) ∧ ep ≤ (l.getD i default).epoch)) : R = false := by
 rw [Zl8 l i hi, Zgj] at hR
 rw [← hR]
 by_cases h1 : Zbb (l.getD i default)
 ·rw [decide_eq_false (fun q => h ⟨h1, q⟩ : ¬ ep ≤ (l.getD i default).epoch)]; simp
 ·rw [decide_eq_false h1]; simp
def Zot (l : List Item) (i : Nat) : Int := if i = 0 then 0 else (l.getD (i - 1) default).epoch
theorem Zmv {l : List Item} {i : Nat} {R : Bool} (hR : Zgj (Zot l i) (l.drop i) = R) (hi : i < l.length) (h1 : Zbb (l.getD i default)) (h2 : i = 0 ∨ (l.getD (i - 1) default).epoch ≤ (l.getD i default).epoch) : Zgj (Zot l (i + 1)) (l.drop (i + 1)) = R := by
 have := Zmu hR hi h1 (by
  unfold Zot
  split
  ·have := h1.1; omega
  ·rcases h2 with h2 | h2
   ·omega
   ·exact h2)
 exact this
theorem Zk7 {l : List Item} {i : Nat} {R : Bool} (hR : Zgj (Zot l i) (l.drop i) = R) (hi : i < l.length) (h : ¬ Zbb (l.getD i default) ∨ (0 < i ∧ (l.getD i default).epoch < (l.getD (i - 1) default).epoch)) : R = false := by
 refine Zi7 hR hi (fun q => ?_)
 rcases h with h | h
 ·exact h q.1
 ·have := q.2
  unfold Zot at this
  rw [if_neg (by omega)] at this
  omega
def Zzi (x : Item) : Bool := decide (1000 < x.entry.text.size)
def Zhf (l : List Item) : Bool := decide (60 < l.length) || l.any Zzi
theorem Zj8 {l : List Item} {i : Nat} {p : Item → Bool} {R : Bool} (hR : (l.drop i).any p = R) (hi : i < l.length) (h : p (l.getD i default) = false) : (l.drop (i + 1)).any p = R := by
 rw [Zl8 l i hi, List.any_cons, h, Bool.false_or] at hR; exact hR
theorem Zpa {l : List Item} {i : Nat} {p : Item → Bool} {R : Bool} (hR : (l.drop i).any p = R) (hi : i < l.length) (h : p (l.getD i default) = true) : R = true := by
 rw [Zl8 l i hi, List.any_cons, h, Bool.true_or] at hR; exact hR.symm
def Zdv (l m : List Item) : Bool := decide (l.length = m.length) && (List.range l.length).all fun i => Z0 (l.getD i default) (m.getD i default)
theorem Zug {l m : List Item} (h : l.length = m.length) (hR : ∀ j, j < l.length → Z0 (l.getD j default) (m.getD j default) = true) : Zdv l m = true := by
 unfold Zdv
 rw [decide_eq_true h, Bool.true_and, List.all_eq_true]
 intro j hj
 exact hR j (List.mem_range.1 hj)
theorem Zoz {l m : List Item} (h : l.length ≠ m.length) : Zdv l m = false := by
 unfold Zdv
 rw [decide_eq_false h, Bool.false_and]
theorem Zuf {l m : List Item} (i : Nat) (hi : i < l.length) (h : Z0 (l.getD i default) (m.getD i default) = false) : Zdv l m = false := by
  cases hs : Zdv l m with
  | false => rfl
  | true =>
    unfold Zdv at hs
    rw [Bool.and_eq_true, List.all_eq_true] at hs
    have := hs.2 i (List.mem_range.2 hi)
    rw [h] at this; cases this
theorem Zna (l : List Item) : Zdv l l = true := Zug rfl fun j _ => Zan _
theorem Zjw (n low high : Int) : Zat Try.prog G 57 [Iv n, Iv low, Iv high] [] (.bool (Zbs n low high)) [] := by
 refine Zcg (fn := Try.f57) (nt := 15) rfl rfl rfl rfl ?_
 refine Zi (Zm (Zc (.bool false) (Zd (Ze (Zi (Zm (Zb (Iv n) (Zb (Iv low) ?_))))))))
 by_cases h1 : low ≤ n
 refine Zn (vx := Iv n) (vy := Iv low) rfl rfl (.bool true) rfl rfl (Zic (by omega)) ?_
 refine Zb (.bool true) (Zb (Iv n) (Zb (Iv high) ?_))
 by_cases h2 : n ≤ high
 refine Zn (vx := Iv n) (vy := Iv high) rfl rfl (.bool true) rfl rfl (Zjn (by omega)) ?_
 refine Zg (.bool true) (Zc (.bool true) (Zd (Ze (Zs (Zq ?_)))))
 rw [show Zbs n low high = true from Zak (by omega) (by omega)]
 exact Zk (v := .bool true) rfl rfl rfl (by kernel_rfl) rfl
 refine Zn (vx := Iv n) (vy := Iv high) rfl rfl (.bool false) rfl rfl (Zjm (by omega)) ?_
 refine Zg (.bool false) (Zc (.bool false) (Zd (Ze (Zs (Zq ?_)))))
 rw [show Zbs n low high = false from Z2 (by omega)]
 exact Zk (v := .bool false) rfl rfl rfl (by kernel_rfl) rfl
 refine Zn (vx := Iv n) (vy := Iv low) rfl rfl (.bool false) rfl rfl (Zho (by omega)) ?_
 refine Zb (.bool false) (Za (Za (Za (Zg (.bool false) (Zc (.bool false) (Zd (Ze (Zs (Zq ?_)))))))))
 rw [show Zbs n low high = false from Z2 (by omega)]
 exact Zk (v := .bool false) rfl rfl rfl (by kernel_rfl) rfl
theorem Zrm (x : Item) : Zat Try.prog G 43 [Zal x] [] (.bool (decide (Zbb x))) [] := by
  refine Zcg (fn := Try.f43) (nt := 12) rfl rfl rfl rfl ?_
  refine Za8 1 (H' := [hole]) rfl ?_
  refine Zi (Zm (Zbn (v := Zal x) (b := bxB 110 (Z1 x)) (nid := 0) (H' := [bxB 110 (Z1 x)]) (Zc (.bool false) (Zd (Ze (Zi (Zm (Zf (b := 0) (o := 0) (n := 0) (o' := 0) (Zl (p := pt 0 0) (v := Iv x.epoch) ?_)))))))))
  by_cases h1 : 1 ≤ x.epoch
  by_cases h2 : x.epoch ≤ 900000000
  refine Zw ((Zjw (G := G) x.epoch 1 900000000).res (congrArg Value.bool (Zak (by omega) (by omega)))) (vals := [Iv x.epoch, Iv 1, Iv 900000000]) (res' := .bool true) rfl rfl rfl rfl rfl rfl ?_
  refine Zb (.bool true) (Zf (b := 0) (o := 0) (n := 1) (o' := 1) (Zl (p := pt 0 1) (v := Zdg x.entry) ?_))
  refine Zw (Zlh (G := G) x.entry) (vals := [Zdg x.entry]) (res' := Iv (Zf4 x.entry)) rfl rfl rfl rfl rfl rfl ?_
  by_cases h3 : (Zf4 x.entry) = 0
  refine Zn (vx := Iv (Zf4 x.entry)) (vy := Iv 0) rfl rfl (.bool true) rfl rfl (Zaj (by omega)) ?_
  refine Zg (.bool true) (Zc (.bool true) (Zd (Ze (Zs (Zq ?_)))))
  rw [show decide (Zbb x) = true from decide_eq_true ⟨by omega, by omega, Zeo (by omega)⟩]
  exact Zk (v := .bool true) rfl rfl rfl (by kernel_rfl) rfl
  refine Zn (vx := Iv (Zf4 x.entry)) (vy := Iv 0) rfl rfl (.bool false) rfl rfl (Zaq (by omega)) ?_
  refine Zg (.bool false) (Zc (.bool false) (Zd (Ze (Zs (Zq ?_)))))
  rw [show decide (Zbb x) = false from decide_eq_false (fun q => by first | (have := q.1; have := q.2.1; omega) | (exact Z8 (by omega) q.2.2))]
  exact Zk (v := .bool false) rfl rfl rfl (by kernel_rfl) rfl
  refine Zw ((Zjw (G := G) x.epoch 1 900000000).res (congrArg Value.bool (Z2 (by omega)))) (vals := [Iv x.epoch, Iv 1, Iv 900000000]) (res' := .bool false) rfl rfl rfl rfl rfl rfl ?_
  refine Zb (.bool false) (Za (Za (Za (Za (Zg (.bool false) (Zc (.bool false) (Zd (Ze (Zs (Zq ?_))))))))))
  rw [show decide (Zbb x) = false from decide_eq_false (fun q => by first | (have := q.1; have := q.2.1; omega) | (exact Z8 (by omega) q.2.2))]
  exact Zk (v := .bool false) rfl rfl rfl (by kernel_rfl) rfl
  refine Zw ((Zjw (G := G) x.epoch 1 900000000).res (congrArg Value.bool (Z2 (by omega)))) (vals := [Iv x.epoch, Iv 1, Iv 900000000]) (res' := .bool false) rfl rfl rfl rfl rfl rfl ?_
  refine Zb (.bool false) (Za (Za (Za (Za (Zg (.bool false) (Zc (.bool false) (Zd (Ze (Zs (Zq ?_))))))))))
  rw [show decide (Zbb x) = false from decide_eq_false (fun q => by first | (have := q.1; have := q.2.1; omega) | (exact Z8 (by omega) q.2.2))]
  exact Zk (v := .bool false) rfl rfl rfl (by kernel_rfl) rfl
theorem Zi5 (l : List Item) (n c : Nat) (hn : l.length = n) (hc : n ≤ c) (hb : n ≤ 1048576) : Zat Try.prog G 27 [slv 0 0 n c] [rwR Zj l] (Iv (Zgm l)) [rwR Zj l] := by
  refine Zcg (fn := Try.f27) (nt := 27) rfl rfl rfl rfl ?_
  refine Zi (Zm (Zc (Iv 0) (Zd (Ze (Zi (Zm (Zc (Iv 0) (Zd (Ze (Zi (Zi (Zm (Zb (slv 0 0 n c) (Zbg (p := slv 0 0 n c) (v := Iv (n : Nat)) (Zb (Iv 0) (Zd (Ze (Zav ?_))))))))))))))))))
  refine Zdz (fun x : Nat × Int => match x with | (i, ep) => [slv 0 0 n c, dead, dead, Iv ep, dead, dead, slv 0 0 n c, Iv (n : Nat), Iv (i : Nat)]) (fun x : Nat × Int => match x with | (i, ep) => [rwR Zj l]) (fun x : Nat × Int => match x with | (i, ep) => Zgj ep (l.drop i) = Zgj 0 l ∧ i ≤ n) (fun x : Nat × Int => match x with | (i, ep) => n - i) (0, 0) ⟨rfl, by omega⟩ ?_ ?_
  · refine Zau (n := 1) rfl ?_ (by kernel_rfl) (by kernel_rfl)
    repeat (first | exact trivial | refine ⟨.inl rfl, ?_⟩ | refine ⟨.inr ⟨rfl, rfl⟩, ?_⟩ | refine ⟨.inr ⟨congrArg (Value.int .i64) (by first | omega | (dsimp only; omega)), rfl⟩, ?_⟩)
  rintro ⟨i, ep⟩ ⟨hR, hi⟩
  dsimp only at *
  refine Za8 2 (H' := [rwR Zj l, hole, hole]) rfl ?_
  refine Zi (Zm ?_)
  by_cases h1 : (i : Nat) < (n : Nat)
  refine Zn (vx := Iv (i : Nat)) (vy := Iv (n : Nat)) rfl rfl (.bool true) rfl rfl (Zdq (by omega)) ?_
  refine Zd (Ze (Zi (Z4 rfl (Z9 (Ze (Zi (Zav (Zi (Zm ?_)))))))))
  refine Zb0 (b := 0) (o := 0) (j := i * 110) (m := n) (c := c) (sz := 110) (i := (i : Nat)) (k := .i64) rfl rfl rfl rfl rfl (by omega) (by omega) (by omega) ?_
  refine Zba (p := pt 0 (i * 110)) (v := Zal (l.getD i default)) rfl rfl rfl (Zcm (n := 0) (m := 110) Zj rfl rfl rfl rfl (by have := hn; omega) (by omega)) ?_
  refine Zbf (b := bxB 110 (Z1 (⟨0, (⟨0, 0, 0, ⟨#[]⟩, (⟨(⟨0, 0, 0, dz, 0⟩ : Head), 0, dz⟩ : Signed), (⟨0, 0, 0, 0, dz⟩ : Claim)⟩ : Entry)⟩ : Item))) (nid := 1) (H' := [rwR Zj l, bxB 110 (Z1 (⟨0, (⟨0, 0, 0, ⟨#[]⟩, (⟨(⟨0, 0, 0, dz, 0⟩ : Head), 0, dz⟩ : Signed), (⟨0, 0, 0, 0, dz⟩ : Claim)⟩ : Entry)⟩ : Item)), hole]) (Z5 (p := pt 1 0) (v := Zal (l.getD i default)) (b := 1) (blk := bxB 110 (Z1 (l.getD i default))) (H' := [rwR Zj l, bxB 110 (Z1 (l.getD i default)), hole]) (Zd (Ze (Zi (Zi (Zm (Zl (p := pt 1 0) (v := Zal (l.getD i default)) ?_)))))))
  refine Zw (Zrm (G := G) (l.getD i default)) (vals := [Zal (l.getD i default)]) (res' := .bool (decide (Zbb (l.getD i default)))) rfl rfl rfl rfl rfl rfl ?_
  rcases Bool.eq_false_or_eq_true (decide (Zbb (l.getD i default))) with h2 | h2
  refine Zcx (vx := .bool (decide (Zbb (l.getD i default)))) rfl rfl (.bool false) rfl (Eq.trans Za3 (congrArg (fun b => some (Value.bool !b)) h2)) ?_
  refine Zb (.bool false) (Zf (b := 1) (o := 0) (n := 0) (o' := 0) (Zl (p := pt 1 0) (v := Iv ((l.getD i default).epoch)) (Zb (Iv ep) ?_)))
  by_cases h3 : ((l.getD i default).epoch) < ep
  refine Zn (vx := Iv ((l.getD i default).epoch)) (vy := Iv ep) rfl rfl (.bool true) rfl rfl (Zdq (by omega)) ?_
  refine Zg (.bool true) (Zd (Ze (Z4 rfl (Zi (Zm (Zc (Iv 100) (Zd (Ze (Zs (Zv (Zy (Zv (Zb5 (Zy (Zv (Zq ?_))))))))))))))))
  rw [show Zgm l = 100 from if_neg (fun q => by have q1 := q.1; have q2 := q.2; first | omega | (rw [Zi7 hR (by omega) (fun r => by first | (have := r.2; omega) | exact absurd r.1 (of_decide_eq_false (by assumption)))] at q2; cases q2))]
  exact Zk (v := Iv 100) rfl rfl rfl (by kernel_rfl) rfl
  refine Zn (vx := Iv ((l.getD i default).epoch)) (vy := Iv ep) rfl rfl (.bool false) rfl rfl (Zdp (by omega)) ?_
  refine Zg (.bool false) (Zd (Ze (Zz rfl (Z9 (Ze (Zm (Zf (b := 1) (o := 0) (n := 0) (o' := 0) (Zl (p := pt 1 0) (v := Iv ((l.getD i default).epoch)) (Zc (Iv ((l.getD i default).epoch)) (Zd (Z7 (Ze (Zm ?_)))))))))))))
  refine Zn (vx := Iv (i : Nat)) (vy := Iv 1) rfl rfl (Iv ((i : Nat) + 1)) rfl rfl (Zbi (by omega) (by omega) (by omega)) ?_
  refine Zb (Iv ((i : Nat) + 1)) (Zd ?_)
  refine Zad ⟨((i + 1), ((l.getD i default).epoch)), ⟨Zmu hR (by omega) (of_decide_eq_true (by assumption)) (by omega), by omega⟩, by show n - (i + 1) < n - i; omega, ?_⟩
  refine Zau (n := 1) rfl ?_ (by kernel_rfl) (by kernel_rfl)
  repeat (first | exact trivial | refine ⟨.inl rfl, ?_⟩ | refine ⟨.inr ⟨rfl, rfl⟩, ?_⟩ | refine ⟨.inr ⟨congrArg (Value.int .i64) (by first | omega | (dsimp only; omega)), rfl⟩, ?_⟩)
  refine Zcx (vx := .bool (decide (Zbb (l.getD i default)))) rfl rfl (.bool true) rfl (Eq.trans Za3 (congrArg (fun b => some (Value.bool !b)) h2)) ?_
  refine Zb (.bool true) (Za (Za (Za (Za (Zg (.bool true) (Zd (Ze (Z4 rfl (Zi (Zm (Zc (Iv 100) (Zd (Ze (Zs (Zv (Zy (Zv (Zb5 (Zy (Zv (Zq ?_)))))))))))))))))))))
  rw [show Zgm l = 100 from if_neg (fun q => by have q1 := q.1; have q2 := q.2; first | omega | (rw [Zi7 hR (by omega) (fun r => by first | (have := r.2; omega) | exact absurd r.1 (of_decide_eq_false (by assumption)))] at q2; cases q2))]
  exact Zk (v := Iv 100) rfl rfl rfl (by kernel_rfl) rfl
  refine Zn (vx := Iv (i : Nat)) (vy := Iv (n : Nat)) rfl rfl (.bool false) rfl rfl (Zdp (by omega)) ?_
  refine Zd (Ze (Zi (Zz rfl (Zez (Zd3 (Zc3 (Zdt rfl (Ze (Zi (Zi (Zm (Zb (slv 0 0 n c) (Zbg (p := slv 0 0 n c) (v := Iv (n : Nat)) ?_)))))))))))))
  by_cases h4 : 2000 < (n : Nat)
  refine Zn (vx := Iv (n : Nat)) (vy := Iv 2000) rfl rfl (.bool true) rfl rfl (Zfe (by omega)) ?_
  refine Zd (Ze (Z4 rfl (Zi (Zm (Zc (Iv 100) (Zd (Ze (Zs (Zv (Zq ?_))))))))))
  rw [show Zgm l = 100 from if_neg (fun q => by have q1 := q.1; have q2 := q.2; first | omega | (rw [Zi7 hR (by omega) (fun r => by first | (have := r.2; omega) | exact absurd r.1 (of_decide_eq_false (by assumption)))] at q2; cases q2))]
  exact Zk (v := Iv 100) rfl rfl rfl (by kernel_rfl) rfl
  refine Zn (vx := Iv (n : Nat)) (vy := Iv 2000) rfl rfl (.bool false) rfl rfl (Zfd (by omega)) ?_
  refine Zd (Ze (Zz rfl (Z9 (Ze (Zi (Zm (Zc (Iv 0) (Zd (Ze (Zs (Zq ?_)))))))))))
  rw [show Zgm l = 0 from if_pos ⟨by omega, by rw [← hR, List.drop_of_length_le (by omega)]; rfl⟩]
  exact Zk (v := Iv 0) rfl rfl rfl (by kernel_rfl) rfl
theorem Zh6 (l : List Item) (n c : Nat) (hn : l.length = n) (hc : n ≤ c) (hb : n ≤ 1048576) : Zat Try.prog G 32 [slv 0 0 n c] [rwR Zj l] (.bool (decide (Zb2 l))) [rwR Zj l] := by
  refine Zcg (fn := Try.f32) (nt := 37) rfl rfl rfl rfl ?_
  refine Zi (Zm (Zc (.bool false) (Zd (Ze (Zi (Zi (Zm (Zb (slv 0 0 n c) (Zbg (p := slv 0 0 n c) (v := Iv (n : Nat)) ?_)))))))))
  by_cases h1 : 2000 < (n : Nat)
  refine Zn (vx := Iv (n : Nat)) (vy := Iv 2000) rfl rfl (.bool true) rfl rfl (Zfe (by omega)) ?_
  refine Zd (Ze (Z4 rfl (Zi (Zm (Zc (.bool false) (Zd (Ze (Zs (Zv (Zq ?_))))))))))
  rw [show decide (Zb2 l) = false from decide_eq_false (fun q => by have q1 := q.1; have q2 := q.2; first | omega | (rw [Zk7 hR (by omega) (by first | (exact .inl (of_decide_eq_false (by assumption))) | (exact .inr ⟨by omega, by omega⟩))] at q2; cases q2))]
  exact Zk (v := .bool false) rfl rfl rfl (by kernel_rfl) rfl
  refine Zn (vx := Iv (n : Nat)) (vy := Iv 2000) rfl rfl (.bool false) rfl rfl (Zfd (by omega)) ?_
  refine Zd (Ze (Zz rfl (Z9 (Ze (Zi (Zi (Zm (Zc (Iv 0) (Zd (Ze (Zav ?_)))))))))))
  refine Zdz (fun i : Nat => [slv 0 0 n c, dead, dead, Iv (i : Nat), slv 0 0 n c, Iv (n : Nat), .bool false]) (fun i : Nat => [rwR Zj l]) (fun i : Nat => Zgj (Zot l i) (l.drop i) = Zgj 0 l ∧ i ≤ n) (fun i : Nat => n - i) 0 ⟨rfl, by omega⟩ ?_ ?_
  · refine Zau (n := 1) rfl ?_ (by kernel_rfl) (by kernel_rfl)
    repeat (first | exact trivial | refine ⟨.inl rfl, ?_⟩ | refine ⟨.inr ⟨rfl, rfl⟩, ?_⟩ | refine ⟨.inr ⟨congrArg (Value.int .i64) (by first | omega | (dsimp only; omega)), rfl⟩, ?_⟩)
  rintro i ⟨hR, hi⟩
  refine Za8 1 (H' := [rwR Zj l, hole]) rfl ?_
  refine Zi (Zi (Zm (Zb (Iv (i : Nat)) (Zb (slv 0 0 n c) (Zbg (p := slv 0 0 n c) (v := Iv (n : Nat)) ?_)))))
  by_cases h2 : (i : Nat) < (n : Nat)
  refine Zn (vx := Iv (i : Nat)) (vy := Iv (n : Nat)) rfl rfl (.bool true) rfl rfl (Zdq (by omega)) ?_
  refine Zd (Ze (Z4 rfl (Z9 (Ze (Zi (Zav (Zi ?_)))))))
  refine Zel (by kernel_rfl) ?_
  refine Zb (slv 0 0 n c) (Zb (Iv (i : Nat)) ?_)
  refine Zb0 (b := 0) (o := 0) (j := i * 110) (m := n) (c := c) (sz := 110) (i := (i : Nat)) (k := .i64) rfl rfl rfl rfl rfl (by omega) (by omega) (by omega) ?_
  refine Zba (p := pt 0 (i * 110)) (v := Zal (l.getD i default)) rfl rfl rfl (Zcm (n := 0) (m := 110) Zj rfl rfl rfl rfl (by have := hn; omega) (by omega)) ?_
  refine Zw (Zfx (G := G) (l.getD i default)) (vals := [Zal (l.getD i default)]) (res' := .bool (decide (Zbb (l.getD i default)))) rfl rfl rfl rfl rfl rfl ?_
  rcases Bool.eq_false_or_eq_true (decide (Zbb (l.getD i default))) with h3 | h3
  refine Zcx (vx := .bool (decide (Zbb (l.getD i default)))) rfl rfl (.bool false) rfl (Eq.trans Za3 (congrArg (fun b => some (Value.bool !b)) h3)) ?_
  refine Zb (.bool false) (Zb (Iv (i : Nat)) ?_)
  by_cases h4 : 0 < (i : Nat)
  refine Zn (vx := Iv (i : Nat)) (vy := Iv 0) rfl rfl (.bool true) rfl rfl (Zfe (by omega)) ?_
  refine Zb (.bool true) (Zb (slv 0 0 n c) (Zb (Iv (i : Nat)) ?_))
  refine Zn (vx := Iv (i : Nat)) (vy := Iv 1) rfl rfl (Iv ((i : Nat) - 1)) rfl rfl (Zg4 (by omega) (by omega) (by omega)) ?_
  refine Zb0 (b := 0) (o := 0) (j := (i - 1) * 110) (m := n) (c := c) (sz := 110) (i := (i : Nat) - 1) (k := .i64) rfl rfl rfl rfl rfl (by omega) (by omega) (by omega) ?_
  refine Zas (b := 0) (o := (i - 1) * 110) (n := 0) (o' := (i - 1) * 110) rfl rfl rfl rfl (by omega) ?_
  refine Zba (p := pt 0 ((i - 1) * 110)) (v := Iv ((l.getD (i - 1) default).epoch)) rfl rfl rfl (Zef Zj (l := l) (i := i - 1) (k := 0) (m := 110) rfl rfl rfl rfl (by have := hn; omega) (by omega) (by kernel_rfl) rfl) ?_
  refine Zb (slv 0 0 n c) (Zb (Iv (i : Nat)) ?_)
  refine Zb0 (b := 0) (o := 0) (j := i * 110) (m := n) (c := c) (sz := 110) (i := (i : Nat)) (k := .i64) rfl rfl rfl rfl rfl (by omega) (by omega) (by omega) ?_
  refine Zas (b := 0) (o := i * 110) (n := 0) (o' := i * 110) rfl rfl rfl rfl (by omega) ?_
  refine Zba (p := pt 0 (i * 110)) (v := Iv ((l.getD i default).epoch)) rfl rfl rfl (Zef Zj (l := l) (i := i) (k := 0) (m := 110) rfl rfl rfl rfl (by have := hn; omega) (by omega) (by kernel_rfl) rfl) ?_
  by_cases h5 : ((l.getD i default).epoch) < ((l.getD (i - 1) default).epoch)
  refine Zn (vx := Iv ((l.getD (i - 1) default).epoch)) (vy := Iv ((l.getD i default).epoch)) rfl rfl (.bool true) rfl rfl (Zfe (by omega)) ?_
  refine Zg (.bool true) (Zg (.bool true) ?_)
  refine Zb6 (Zay [[], [], [0, 1], [0, 1, 2], [0, 1, 2, 3], [0, 1, 2, 3, 4], [0, 1, 2, 3, 4, 5], [0, 1, 2, 3, 4, 5, 6], [0, 1, 2, 3, 4, 5, 6, 7], [0, 1, 2, 3, 4, 5, 6, 7, 8], [0, 1, 2, 3, 4, 5, 6, 7, 8, 9], [0, 1, 2, 3, 4, 5, 6, 7, 8, 9], [0, 1, 2, 3, 4, 5, 6, 7, 8, 9, 11], [0, 1, 2, 3, 4, 5, 6, 7, 8, 9, 10, 11, 12], [0, 1, 2, 3, 4, 5, 6, 7, 8, 9, 10, 11, 12, 13], [0, 1, 2, 3, 4, 5, 6, 7, 8, 9, 10, 11, 12, 13, 14], [0, 1, 2, 3, 4, 5, 6, 7, 8, 9], [0, 1, 2, 3, 4, 5, 6, 7, 8, 9], [0, 1, 2, 3, 4, 5, 6, 7, 8, 9, 16, 17], [0, 1, 2, 3, 4, 5, 6, 7, 8, 9, 16, 17, 18], [0, 1, 2, 3, 4, 5, 6, 7, 8, 9, 16, 17, 18, 19], [0, 1, 2, 3, 4, 5, 6, 7, 8, 9, 10, 11, 12, 13, 14, 15, 16, 17, 18, 19, 20], [0, 1, 2, 3, 4, 5, 6, 7, 8, 9, 10, 11, 12, 13, 14, 15, 16, 17, 18, 19, 20, 21], [0, 1, 2, 3, 4, 5, 6, 7, 8, 9, 10, 11, 12, 13, 14, 15, 16, 17, 18, 19, 20, 21, 22]] (by kernel_rfl) (by kernel_rfl)) ?_
  refine Ze (Z4 rfl (Zi (Zm (Zc (.bool false) (Zd (Ze (Zs (Zy (Zv (Zb5 (Zy (Zv (Zq ?_)))))))))))))
  rw [show decide (Zb2 l) = false from decide_eq_false (fun q => by have q1 := q.1; have q2 := q.2; first | omega | (rw [Zk7 hR (by omega) (by first | (exact .inl (of_decide_eq_false (by assumption))) | (exact .inr ⟨by omega, by omega⟩))] at q2; cases q2))]
  exact Zk (v := .bool false) rfl rfl rfl (by kernel_rfl) rfl
  refine Zn (vx := Iv ((l.getD (i - 1) default).epoch)) (vy := Iv ((l.getD i default).epoch)) rfl rfl (.bool false) rfl rfl (Zfd (by omega)) ?_
  refine Zg (.bool false) (Zg (.bool false) ?_)
  refine Zb6 (Zay [[], [], [0, 1], [0, 1, 2], [0, 1, 2, 3], [0, 1, 2, 3, 4], [0, 1, 2, 3, 4, 5], [0, 1, 2, 3, 4, 5, 6], [0, 1, 2, 3, 4, 5, 6, 7], [0, 1, 2, 3, 4, 5, 6, 7, 8], [0, 1, 2, 3, 4, 5, 6, 7, 8, 9], [0, 1, 2, 3, 4, 5, 6, 7, 8, 9], [0, 1, 2, 3, 4, 5, 6, 7, 8, 9, 11], [0, 1, 2, 3, 4, 5, 6, 7, 8, 9, 10, 11, 12], [0, 1, 2, 3, 4, 5, 6, 7, 8, 9, 10, 11, 12, 13], [0, 1, 2, 3, 4, 5, 6, 7, 8, 9, 10, 11, 12, 13, 14], [0, 1, 2, 3, 4, 5, 6, 7, 8, 9], [0, 1, 2, 3, 4, 5, 6, 7, 8, 9], [0, 1, 2, 3, 4, 5, 6, 7, 8, 9, 16, 17], [0, 1, 2, 3, 4, 5, 6, 7, 8, 9, 16, 17, 18], [0, 1, 2, 3, 4, 5, 6, 7, 8, 9, 16, 17, 18, 19], [0, 1, 2, 3, 4, 5, 6, 7, 8, 9, 10, 11, 12, 13, 14, 15, 16, 17, 18, 19, 20], [0, 1, 2, 3, 4, 5, 6, 7, 8, 9, 10, 11, 12, 13, 14, 15, 16, 17, 18, 19, 20, 21], [0, 1, 2, 3, 4, 5, 6, 7, 8, 9, 10, 11, 12, 13, 14, 15, 16, 17, 18, 19, 20, 21, 22]] (by kernel_rfl) (by kernel_rfl)) ?_
  refine Ze (Zz rfl (Z9 (Z7 (Ze (Zm (Zb (Iv (i : Nat)) ?_))))))
  refine Zn (vx := Iv (i : Nat)) (vy := Iv 1) rfl rfl (Iv ((i : Nat) + 1)) rfl rfl (Zbi (by omega) (by omega) (by omega)) ?_
  refine Zc (Iv ((i : Nat) + 1)) (Zd ?_)
  refine Zad ⟨(i + 1), ⟨Zmv hR (by omega) (of_decide_eq_true (by assumption)) (by first | (left; omega) | (right; omega)), by omega⟩, by show n - (i + 1) < n - i; omega, ?_⟩
  refine Zau (n := 1) rfl ?_ (by kernel_rfl) (by kernel_rfl)
  repeat (first | exact trivial | refine ⟨.inl rfl, ?_⟩ | refine ⟨.inr ⟨rfl, rfl⟩, ?_⟩ | refine ⟨.inr ⟨congrArg (Value.int .i64) (by first | omega | (dsimp only; omega)), rfl⟩, ?_⟩)
  refine Zn (vx := Iv (i : Nat)) (vy := Iv 0) rfl rfl (.bool false) rfl rfl (Zfd (by omega)) ?_
  refine Zb (.bool false) (Za (Za (Za (Za (Za (Za (Za (Za (Za (Za (Za (Za (Zg (.bool false) (Zg (.bool false) ?_))))))))))))))
  refine Zb6 (Zay [[], [], [0, 1], [0, 1, 2], [0, 1, 2, 3], [0, 1, 2, 3, 4], [0, 1, 2, 3, 4, 5], [0, 1, 2, 3, 4, 5, 6], [0, 1, 2, 3, 4, 5, 6, 7], [0, 1, 2, 3, 4, 5, 6, 7, 8], [0, 1, 2, 3, 4, 5, 6, 7, 8, 9], [0, 1, 2, 3, 4, 5, 6, 7, 8, 9], [0, 1, 2, 3, 4, 5, 6, 7, 8, 9, 11], [0, 1, 2, 3, 4, 5, 6, 7, 8, 9, 10, 11, 12], [0, 1, 2, 3, 4, 5, 6, 7, 8, 9, 10, 11, 12, 13], [0, 1, 2, 3, 4, 5, 6, 7, 8, 9, 10, 11, 12, 13, 14], [0, 1, 2, 3, 4, 5, 6, 7, 8, 9], [0, 1, 2, 3, 4, 5, 6, 7, 8, 9], [0, 1, 2, 3, 4, 5, 6, 7, 8, 9, 16, 17], [0, 1, 2, 3, 4, 5, 6, 7, 8, 9, 16, 17, 18], [0, 1, 2, 3, 4, 5, 6, 7, 8, 9, 16, 17, 18, 19], [0, 1, 2, 3, 4, 5, 6, 7, 8, 9, 10, 11, 12, 13, 14, 15, 16, 17, 18, 19, 20], [0, 1, 2, 3, 4, 5, 6, 7, 8, 9, 10, 11, 12, 13, 14, 15, 16, 17, 18, 19, 20, 21], [0, 1, 2, 3, 4, 5, 6, 7, 8, 9, 10, 11, 12, 13, 14, 15, 16, 17, 18, 19, 20, 21, 22]] (by kernel_rfl) (by kernel_rfl)) ?_
  refine Ze (Zz rfl (Z9 (Z7 (Ze (Zm (Zb (Iv (i : Nat)) ?_))))))
  refine Zn (vx := Iv (i : Nat)) (vy := Iv 1) rfl rfl (Iv ((i : Nat) + 1)) rfl rfl (Zbi (by omega) (by omega) (by omega)) ?_
  refine Zc (Iv ((i : Nat) + 1)) (Zd ?_)
  refine Zad ⟨(i + 1), ⟨Zmv hR (by omega) (of_decide_eq_true (by assumption)) (by first | (left; omega) | (right; omega)), by omega⟩, by show n - (i + 1) < n - i; omega, ?_⟩
  refine Zau (n := 1) rfl ?_ (by kernel_rfl) (by kernel_rfl)
  repeat (first | exact trivial | refine ⟨.inl rfl, ?_⟩ | refine ⟨.inr ⟨rfl, rfl⟩, ?_⟩ | refine ⟨.inr ⟨congrArg (Value.int .i64) (by first | omega | (dsimp only; omega)), rfl⟩, ?_⟩)
  refine Zcx (vx := .bool (decide (Zbb (l.getD i default)))) rfl rfl (.bool true) rfl (Eq.trans Za3 (congrArg (fun b => some (Value.bool !b)) h3)) ?_
  refine Zb (.bool true) (Za (Za (Za (Za (Za (Za (Za (Za (Za (Za (Za (Za (Za (Za (Za (Za (Zg (.bool true) ?_)))))))))))))))))
  refine Zb6 (Zay [[], [], [0, 1], [0, 1, 2], [0, 1, 2, 3], [0, 1, 2, 3, 4], [0, 1, 2, 3, 4, 5], [0, 1, 2, 3, 4, 5, 6], [0, 1, 2, 3, 4, 5, 6, 7], [0, 1, 2, 3, 4, 5, 6, 7, 8], [0, 1, 2, 3, 4, 5, 6, 7, 8, 9], [0, 1, 2, 3, 4, 5, 6, 7, 8, 9], [0, 1, 2, 3, 4, 5, 6, 7, 8, 9, 11], [0, 1, 2, 3, 4, 5, 6, 7, 8, 9, 10, 11, 12], [0, 1, 2, 3, 4, 5, 6, 7, 8, 9, 10, 11, 12, 13], [0, 1, 2, 3, 4, 5, 6, 7, 8, 9, 10, 11, 12, 13, 14], [0, 1, 2, 3, 4, 5, 6, 7, 8, 9], [0, 1, 2, 3, 4, 5, 6, 7, 8, 9], [0, 1, 2, 3, 4, 5, 6, 7, 8, 9, 16, 17], [0, 1, 2, 3, 4, 5, 6, 7, 8, 9, 16, 17, 18], [0, 1, 2, 3, 4, 5, 6, 7, 8, 9, 16, 17, 18, 19], [0, 1, 2, 3, 4, 5, 6, 7, 8, 9, 10, 11, 12, 13, 14, 15, 16, 17, 18, 19, 20], [0, 1, 2, 3, 4, 5, 6, 7, 8, 9, 10, 11, 12, 13, 14, 15, 16, 17, 18, 19, 20, 21], [0, 1, 2, 3, 4, 5, 6, 7, 8, 9, 10, 11, 12, 13, 14, 15, 16, 17, 18, 19, 20, 21, 22]] (by kernel_rfl) (by kernel_rfl)) ?_
  refine Ze (Z4 rfl (Zi (Zm (Zc (.bool false) (Zd (Ze (Zs (Zy (Zv (Zb5 (Zy (Zv (Zq ?_)))))))))))))
  rw [show decide (Zb2 l) = false from decide_eq_false (fun q => by have q1 := q.1; have q2 := q.2; first | omega | (rw [Zk7 hR (by omega) (by first | (exact .inl (of_decide_eq_false (by assumption))) | (exact .inr ⟨by omega, by omega⟩))] at q2; cases q2))]
  exact Zk (v := .bool false) rfl rfl rfl (by kernel_rfl) rfl
  refine Zn (vx := Iv (i : Nat)) (vy := Iv (n : Nat)) rfl rfl (.bool false) rfl rfl (Zdp (by omega)) ?_
  refine Zd (Ze (Zz rfl (Zez (Zd3 (Zc3 (Zdt rfl (Ze (Zi (Zm (Zc (.bool true) (Zd (Ze (Zs (Zq ?_))))))))))))))
  rw [show decide (Zb2 l) = true from decide_eq_true ⟨by omega, by rw [← hR, List.drop_of_length_le (by omega)]; rfl⟩]
  exact Zk (v := .bool true) rfl rfl rfl (by kernel_rfl) rfl
theorem Zow (l : List Item) (n c : Nat) (hn : l.length = n) (hc : n ≤ c) (hb : n ≤ 9223372036854775807) : Zat Try.prog G 23 [slv 0 0 n c] [rwR Zj l] (.bool (Zhf l)) [rwR Zj l] := by
  refine Zcg (fn := Try.f23) (nt := 21) rfl rfl rfl rfl ?_
  refine Zi (Zm (Zc (.bool false) (Zd (Ze (Zi (Zi (Zm (Zb (slv 0 0 n c) (Zbg (p := slv 0 0 n c) (v := Iv (n : Nat)) ?_)))))))))
  by_cases h1 : 60 < (n : Nat)
  refine Zn (vx := Iv (n : Nat)) (vy := Iv 60) rfl rfl (.bool true) rfl rfl (Zfe (by omega)) ?_
  refine Zd (Ze (Z4 rfl (Zi (Zm (Zc (.bool true) (Zd (Ze (Zs (Zv (Zq ?_))))))))))
  rw [show Zhf l = true from by unfold Zhf; first | (rw [decide_eq_true (by omega : 60 < l.length)]; rfl) | (rw [Zpa hR (by omega) (decide_eq_true (by omega)), Bool.or_true])]
  exact Zk (v := .bool true) rfl rfl rfl (by kernel_rfl) rfl
  refine Zn (vx := Iv (n : Nat)) (vy := Iv 60) rfl rfl (.bool false) rfl rfl (Zfd (by omega)) ?_
  refine Zd (Ze (Zz rfl (Z9 (Ze (Zi (Zi (Zm (Zc (Iv 0) (Zd (Ze (Zav ?_)))))))))))
  refine Zdz (fun i : Nat => [slv 0 0 n c, dead, dead, Iv (i : Nat), slv 0 0 n c, Iv (n : Nat), .bool false]) (fun i : Nat => [rwR Zj l]) (fun i : Nat => (l.drop i).any Zzi = l.any Zzi ∧ i ≤ n) (fun i : Nat => n - i) 0 ⟨rfl, by omega⟩ ?_ ?_
  · refine Zau (n := 1) rfl ?_ (by kernel_rfl) (by kernel_rfl)
    repeat (first | exact trivial | refine ⟨.inl rfl, ?_⟩ | refine ⟨.inr ⟨rfl, rfl⟩, ?_⟩ | refine ⟨.inr ⟨congrArg (Value.int .i64) (by first | omega | (dsimp only; omega)), rfl⟩, ?_⟩)
  rintro i ⟨hR, hi⟩
  refine Za8 1 (H' := [rwR Zj l, hole]) rfl ?_
  refine Zi (Zi (Zm (Zb (Iv (i : Nat)) (Zb (slv 0 0 n c) (Zbg (p := slv 0 0 n c) (v := Iv (n : Nat)) ?_)))))
  by_cases h2 : (i : Nat) < (n : Nat)
  refine Zn (vx := Iv (i : Nat)) (vy := Iv (n : Nat)) rfl rfl (.bool true) rfl rfl (Zdq (by omega)) ?_
  refine Zd (Ze (Z4 rfl (Z9 (Ze (Zi (Zav (Zi (Zm (Zb (slv 0 0 n c) (Zb (Iv (i : Nat)) ?_))))))))))
  refine Zb0 (b := 0) (o := 0) (j := i * 110) (m := n) (c := c) (sz := 110) (i := (i : Nat)) (k := .i64) rfl rfl rfl rfl rfl (by omega) (by omega) (by omega) ?_
  refine Zas (b := 0) (o := i * 110) (n := 1) (o' := i * 110 + 1) rfl rfl rfl rfl (by omega) ?_
  refine Zas (b := 0) (o := i * 110 + 1) (n := 3) (o' := i * 110 + 4) rfl rfl rfl rfl (by omega) ?_
  refine Zba (p := pt 0 (i * 110 + 4)) (v := .string (((l.getD i default).entry).text)) rfl rfl rfl (Zef Zj (l := l) (i := i) (k := 4) (m := 110) rfl rfl rfl rfl (by have := hn; omega) (by omega) (by kernel_rfl) rfl) ?_
  refine Zbg (p := .string (((l.getD i default).entry).text)) (v := Iv ((((((l.getD i default).entry).text).size) : Nat) : Int)) ?_
  by_cases h3 : 1000 < ((((((l.getD i default).entry).text).size) : Nat) : Int)
  refine Zn (vx := Iv ((((((l.getD i default).entry).text).size) : Nat) : Int)) (vy := Iv 1000) rfl rfl (.bool true) rfl rfl (Zfe (by omega)) ?_
  refine Zd (Ze (Z4 rfl (Zi (Zm (Zc (.bool true) (Zd (Ze (Zs (Zy (Zv (Zb5 (Zy (Zv (Zq ?_))))))))))))))
  rw [show Zhf l = true from by unfold Zhf; first | (rw [decide_eq_true (by omega : 60 < l.length)]; rfl) | (rw [Zpa hR (by omega) (decide_eq_true (by omega)), Bool.or_true])]
  exact Zk (v := .bool true) rfl rfl rfl (by kernel_rfl) rfl
  refine Zn (vx := Iv ((((((l.getD i default).entry).text).size) : Nat) : Int)) (vy := Iv 1000) rfl rfl (.bool false) rfl rfl (Zfd (by omega)) ?_
  refine Zd (Ze (Zz rfl (Z9 (Z7 (Ze (Zm (Zb (Iv (i : Nat)) ?_)))))))
  refine Zn (vx := Iv (i : Nat)) (vy := Iv 1) rfl rfl (Iv ((i : Nat) + 1)) rfl rfl (Zbi (by omega) (by omega) (by omega)) ?_
  refine Zc (Iv ((i : Nat) + 1)) (Zd ?_)
  refine Zad ⟨(i + 1), ⟨Zj8 hR (by omega) (decide_eq_false (by omega)), by omega⟩, by show n - (i + 1) < n - i; omega, ?_⟩
  refine Zau (n := 1) rfl ?_ (by kernel_rfl) (by kernel_rfl)
  repeat (first | exact trivial | refine ⟨.inl rfl, ?_⟩ | refine ⟨.inr ⟨rfl, rfl⟩, ?_⟩ | refine ⟨.inr ⟨congrArg (Value.int .i64) (by first | omega | (dsimp only; omega)), rfl⟩, ?_⟩)
  refine Zn (vx := Iv (i : Nat)) (vy := Iv (n : Nat)) rfl rfl (.bool false) rfl rfl (Zdp (by omega)) ?_
  refine Zd (Ze (Zz rfl (Zez (Zd3 (Zc3 (Zdt rfl (Ze (Zi (Zm (Zc (.bool false) (Zd (Ze (Zs (Zq ?_))))))))))))))
  rw [show Zhf l = false from by unfold Zhf; rw [decide_eq_false (by omega : ¬ 60 < l.length), Bool.false_or, ← hR, List.drop_of_length_le (by omega)]; rfl]
  exact Zk (v := .bool false) rfl rfl rfl (by kernel_rfl) rfl
theorem Zm7 (l m : List Item) (n c p d : Nat) (hn : l.length = n) (hm : m.length = p) (hc : n ≤ c) (hd : p ≤ d) (hb : n ≤ 1048576) (hb2 : p ≤ 1048576) : Zat Try.prog G 22 [slv 0 0 n c, slv 1 0 p d] [rwR Zj l, rwR Zj m] (.bool (Zdv l m)) [rwR Zj l, rwR Zj m] := by
  refine Zcg (fn := Try.f22) (nt := 26) rfl rfl rfl rfl ?_
  refine Zi (Zm (Zc (.bool false) (Zd (Ze (Zi (Zi (Zm (Zb (slv 0 0 n c) (Zbg (p := slv 0 0 n c) (v := Iv (n : Nat)) (Zb (slv 1 0 p d) (Zbg (p := slv 1 0 p d) (v := Iv (p : Nat)) ?_)))))))))))
  by_cases h1 : (n : Nat) ≠ (p : Nat)
  refine Zn (vx := Iv (n : Nat)) (vy := Iv (p : Nat)) rfl rfl (.bool true) rfl rfl (Zd5 (by omega)) ?_
  refine Zd (Ze (Z4 rfl (Zi (Zm (Zc (.bool false) (Zd (Ze (Zs (Zv (Zq ?_))))))))))
  rw [show Zdv l m = false from by first | exact Zoz (by omega) | exact Zuf i (by omega) (by assumption)]
  exact Zk (v := .bool false) rfl rfl rfl (by kernel_rfl) rfl
  refine Zn (vx := Iv (n : Nat)) (vy := Iv (p : Nat)) rfl rfl (.bool false) rfl rfl (Zd4 (by omega)) ?_
  refine Zd (Ze (Zz rfl (Z9 (Ze (Zi (Zi (Zm (Zc (Iv 0) (Zd (Ze (Zav ?_)))))))))))
  refine Zdz (fun i : Nat => [slv 0 0 n c, slv 1 0 p d, dead, dead, dead, Iv (i : Nat), slv 0 0 n c, Iv (n : Nat), slv 1 0 p d, Iv (p : Nat), .bool false]) (fun i : Nat => [rwR Zj l, rwR Zj m]) (fun i : Nat => (∀ j, j < i → Z0 (l.getD j default) (m.getD j default) = true) ∧ i ≤ n) (fun i : Nat => n - i) 0 ⟨fun _ h => absurd h (by omega), by omega⟩ ?_ ?_
  · refine Zau (n := 2) rfl ?_ (by kernel_rfl) (by kernel_rfl)
    repeat (first | exact trivial | refine ⟨.inl rfl, ?_⟩ | refine ⟨.inr ⟨rfl, rfl⟩, ?_⟩ | refine ⟨.inr ⟨congrArg (Value.int .i64) (by first | omega | (dsimp only; omega)), rfl⟩, ?_⟩)
  rintro i ⟨hR, hi⟩
  refine Za8 1 (H' := [rwR Zj l, rwR Zj m, hole]) rfl ?_
  refine Zi (Zi (Zm (Zb (Iv (i : Nat)) (Zb (slv 0 0 n c) (Zbg (p := slv 0 0 n c) (v := Iv (n : Nat)) ?_)))))
  by_cases h2 : (i : Nat) < (n : Nat)
  refine Zn (vx := Iv (i : Nat)) (vy := Iv (n : Nat)) rfl rfl (.bool true) rfl rfl (Zdq (by omega)) ?_
  refine Zd (Ze (Z4 rfl (Z9 (Ze (Zi (Zav (Zi ?_)))))))
  refine Zek (by kernel_rfl) ?_
  refine Zb (slv 0 0 n c) (Zb (Iv (i : Nat)) ?_)
  refine Zb0 (b := 0) (o := 0) (j := i * 110) (m := n) (c := c) (sz := 110) (i := (i : Nat)) (k := .i64) rfl rfl rfl rfl rfl (by omega) (by omega) (by omega) ?_
  refine Zba (p := pt 0 (i * 110)) (v := Zal (l.getD i default)) rfl rfl rfl (Zcm (n := 0) (m := 110) Zj rfl rfl rfl rfl (by have := hn; omega) (by omega)) ?_
  refine Zb (slv 1 0 p d) (Zb (Iv (i : Nat)) ?_)
  refine Zb0 (b := 1) (o := 0) (j := i * 110) (m := p) (c := d) (sz := 110) (i := (i : Nat)) (k := .i64) rfl rfl rfl rfl rfl (by omega) (by omega) (by omega) ?_
  refine Zba (p := pt 1 (i * 110)) (v := Zal (m.getD i default)) rfl rfl rfl (Zcm (n := 0) (m := 110) Zj rfl rfl rfl rfl (by have := hm; omega) (by omega)) ?_
  rcases Bool.eq_false_or_eq_true (Z0 (l.getD i default) (m.getD i default)) with h3 | h3
  refine Zn (vx := Zal (l.getD i default)) (vy := Zal (m.getD i default)) rfl rfl (.bool false) rfl rfl (Eq.trans (Zq5 (l.getD i default) (m.getD i default)) (by rw [h3] <;> rfl)) ?_
  refine Zbv (Za4 [[], [], [0, 1], [0, 1, 2], [], [], [4, 5], [4, 5, 6], [0, 1, 2, 3, 4, 5, 6, 7]] (by kernel_rfl) (by kernel_rfl)) ?_
  refine Ze (Zz rfl (Z9 (Z7 (Ze (Zm (Zb (Iv (i : Nat)) ?_))))))
  refine Zn (vx := Iv (i : Nat)) (vy := Iv 1) rfl rfl (Iv ((i : Nat) + 1)) rfl rfl (Zbi (by omega) (by omega) (by omega)) ?_
  refine Zc (Iv ((i : Nat) + 1)) (Zd ?_)
  refine Zad ⟨(i + 1), ⟨fun j hj => by rcases Nat.lt_or_ge j i with h | h; exact hR j h; obtain rfl : j = i := (by omega); assumption, by omega⟩, by show n - (i + 1) < n - i; omega, ?_⟩
  refine Zau (n := 2) rfl ?_ (by kernel_rfl) (by kernel_rfl)
  repeat (first | exact trivial | refine ⟨.inl rfl, ?_⟩ | refine ⟨.inr ⟨rfl, rfl⟩, ?_⟩ | refine ⟨.inr ⟨congrArg (Value.int .i64) (by first | omega | (dsimp only; omega)), rfl⟩, ?_⟩)
  refine Zn (vx := Zal (l.getD i default)) (vy := Zal (m.getD i default)) rfl rfl (.bool true) rfl rfl (Eq.trans (Zq5 (l.getD i default) (m.getD i default)) (by rw [h3] <;> rfl)) ?_
  refine Zbv (Za4 [[], [], [0, 1], [0, 1, 2], [], [], [4, 5], [4, 5, 6], [0, 1, 2, 3, 4, 5, 6, 7]] (by kernel_rfl) (by kernel_rfl)) ?_
  refine Ze (Z4 rfl (Zi (Zm (Zc (.bool false) (Zd (Ze (Zs (Zy (Zv (Zb5 (Zy (Zv (Zq ?_)))))))))))))
  rw [show Zdv l m = false from by first | exact Zoz (by omega) | exact Zuf i (by omega) (by assumption)]
  exact Zk (v := .bool false) rfl rfl rfl (by kernel_rfl) rfl
  refine Zn (vx := Iv (i : Nat)) (vy := Iv (n : Nat)) rfl rfl (.bool false) rfl rfl (Zdp (by omega)) ?_
  refine Zd (Ze (Zz rfl (Zez (Zd3 (Zc3 (Zdt rfl (Ze (Zi (Zm (Zc (.bool true) (Zd (Ze (Zs (Zq ?_))))))))))))))
  rw [show Zdv l m = true from Zug (by omega) (fun j hj => hR j (by omega))]
  exact Zk (v := .bool true) rfl rfl rfl (by kernel_rfl) rfl
theorem Zld (l : List Item) (n c : Nat) (hn : l.length = n) (hc : n ≤ c) (hb : n ≤ 1048576) : Zat Try.prog G 24 [slv 0 0 n c] [rwR Zj l] (slv 1 0 n n) [rwR Zj l, rwB Zj l] := by
  refine Zcg (fn := Try.f24) (nt := 8) rfl rfl rfl rfl ?_
  refine Za8 1 (H' := [rwR Zj l, hole]) rfl ?_
  refine Zi (Zm (Zc (.slice none 0 0) (Zd (Ze (Zi (Zm (Zc (.slice none 0 0) (Zd (Ze (Zi ?_))))))))))
  refine Zbh (Zbz.nilTmp (i := 3) (b := 1) true 110 rfl (by decide) rfl) ?_
  refine Zm (Zb (slv 1 0 0 0) (Zb (slv 0 0 n c) ?_))
  have hl2 : ([] ++ l).length = n := by have := hn; first | (rw [List.length_append]; omega) | (rw [List.length_append, List.length_take]; omega) | (simp; omega) | simp
  refine Zc1 (p := slv 1 0 0 0) (q := slv 0 0 n c) (v := slv 1 0 n n) (b := 1) (blk := rwB Zj ([] ++ l)) (H' := [rwR Zj l, rwB Zj ([] ++ l)]) rfl rfl rfl (.inl ⟨_, rfl⟩) rfl rfl (Zds Zj (by_ := 216) (k := n) (n' := n) (ms := l) (fun _ => rfl) rfl rfl (Zhu Zj rfl rfl (by have := hn; omega)) rfl rfl rfl (by omega) (by decide) (by omega)) rfl (by kernel_rfl) ?_
  refine Zc (slv 1 0 n n) (Zd (Ze (Zi (Zm (Zb (slv 1 0 n n) (Zc (slv 1 0 n n) (Zd (Ze (Zs (Zq ?_))))))))))
  exact Zar [0, 1] (v := slv 1 0 n n) rfl (by kernel_rfl) rfl rfl (by decide) (by simp [Zbr, rwB, rwR, Zj]) ⟨rfl, rfl, rfl, by first | omega | exact Nat.le_refl _ | exact Nat.zero_le _ | (dsimp only; omega), by first | omega | exact Nat.le_refl _ | exact Nat.zero_le _ | (dsimp only; omega)⟩
end Go.Flat
