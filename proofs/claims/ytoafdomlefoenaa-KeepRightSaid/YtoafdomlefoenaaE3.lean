/- Walks. -/
import Derived.Test.YtoafdomlefoenaaE2
set_option linter.unusedVariables false
set_option linter.unusedSimpArgs false
set_option maxRecDepth 20000
namespace Go.Flat
open Go.Proofs
variable {G : Glob}
theorem Zk3 (l : List Item) (i : Nat) (h : i < l.length) : l.drop i = l.getD i default :: l.drop (i + 1) := by
 rw [List.drop_eq_getElem_cons h, List.getD_eq_getElem?_getD, List.getElem?_eq_getElem h]; rfl
def Zhm : Int → List Item → Bool
  | _, [] => true
  | ep, x :: l => decide (Zb4 x) && decide (ep ≤ x.epoch) && Zhm x.epoch l
def Zd9 (l : List Item) : Prop := l.length ≤ 2000 ∧ Zhm 0 l = true
instance (l : List Item) : Decidable (Zd9 l) := inferInstanceAs (Decidable (_ ∧ _))
def Zfj (l : List Item) : Int := if Zd9 l then 0 else 100
theorem Zbs {l : List Item} (h : Zfj l = 0) : Zd9 l := by
 unfold Zfj at h
 split at h
 ·assumption
 ·omega
theorem Zaf {l : List Item} (h : ¬ Zfj l = 0) : ¬ Zd9 l := fun q => h (if_pos q)
theorem Zqu {ep : Int} {l : List Item} {i : Nat} {R : Bool} (hR : Zhm ep (l.drop i) = R) (hi : i < l.length) (h1 : Zb4 (l.getD i default)) (h2 : ep ≤ (l.getD i default).epoch) : Zhm (l.getD i default).epoch (l.drop (i + 1)) = R := by
 rw [Zk3 l i hi, Zhm, decide_eq_true h1, decide_eq_true h2] at hR; simpa using hR
theorem Zj5 {ep : Int} {l : List Item} {i : Nat} {R : Bool} (hR : Zhm ep (l.drop i) = R) (hi : i < l.length) (h : ¬ (Zb4 (l.getD i default) ∧ ep ≤ (l.getD i default).epoch)) : R = false := by
 rw [Zk3 l i hi, Zhm] at hR
 rw [← hR]
 by_cases h1 : Zb4 (l.getD i default)
 ·rw [decide_eq_false (fun q => h ⟨h1, q⟩ : ¬ ep ≤ (l.getD i default).epoch)]; simp
 ·rw [decide_eq_false h1]; simp
def Z00 (l : List Item) (i : Nat) : Int := if i = 0 then 0 else (l.getD (i - 1) default).epoch
def Zxq (x : Item) : Bool := decide (1000 < x.entry.text.size)
def Zgf (l : List Item) : Bool := decide (60 < l.length) || l.any Zxq
theorem Zt3 {l : List Item} {i : Nat} {p : Item → Bool} {R : Bool} (hR : (l.drop i).any p = R) (hi : i < l.length) (h : p (l.getD i default) = false) : (l.drop (i + 1)).any p = R := by
 rw [Zk3 l i hi, List.any_cons, h, Bool.false_or] at hR; exact hR
theorem Zru {l : List Item} {i : Nat} {p : Item → Bool} {R : Bool} (hR : (l.drop i).any p = R) (hi : i < l.length) (h : p (l.getD i default) = true) : R = true := by
 rw [Zk3 l i hi, List.any_cons, h, Bool.true_or] at hR; exact hR.symm
def Zcs (l m : List Item) : Bool := decide (l.length = m.length) && (List.range l.length).all fun i => Z3 (l.getD i default) (m.getD i default)
theorem Zsp {l m : List Item} (h : l.length = m.length) (hR : ∀ j, j < l.length → Z3 (l.getD j default) (m.getD j default) = true) : Zcs l m = true := by
 unfold Zcs
 rw [decide_eq_true h, Bool.true_and, List.all_eq_true]
 intro j hj
 exact hR j (List.mem_range.1 hj)
theorem Zni {l m : List Item} (h : l.length ≠ m.length) : Zcs l m = false := by
 unfold Zcs
 rw [decide_eq_false h, Bool.false_and]
theorem Zso {l m : List Item} (i : Nat) (hi : i < l.length) (h : Z3 (l.getD i default) (m.getD i default) = false) : Zcs l m = false := by
  cases hs : Zcs l m with
  | false => rfl
  | true =>
    unfold Zcs at hs
    rw [Bool.and_eq_true, List.all_eq_true] at hs
    have := hs.2 i (List.mem_range.2 hi)
    rw [h] at this; cases this
theorem Zlz (l : List Item) : Zcs l l = true := Zsp rfl fun j _ => Za4 _
theorem Ziv (n low high : Int) : Zar Try.prog G 57 [Iv n, Iv low, Iv high] [] (.bool (Zb7 n low high)) [] := by
 refine Zcu (fn := Try.f57) (nt := 15) rfl rfl rfl rfl ?_
 refine Zj (Zl (Zc (.bool false) (Zd (Zf (Zj (Zl (Zb (Iv n) (Zb (Iv low) ?_))))))))
 by_cases h1 : low ≤ n
 refine Zn (vx := Iv n) (vy := Iv low) rfl rfl (.bool true) rfl rfl (Zfg (by omega)) ?_
 refine Zb (.bool true) (Zb (Iv n) (Zb (Iv high) ?_))
 by_cases h2 : n ≤ high
 refine Zn (vx := Iv n) (vy := Iv high) rfl rfl (.bool true) rfl rfl (Zna (by omega)) ?_
 refine Zh (.bool true) (Zc (.bool true) (Zd (Zf (Zq (Zp ?_)))))
 rw [show Zb7 n low high = true from Za2 (by omega) (by omega)]
 exact Zm (v := .bool true) rfl rfl rfl (by kernel_rfl) rfl
 refine Zn (vx := Iv n) (vy := Iv high) rfl rfl (.bool false) rfl rfl (Zm9 (by omega)) ?_
 refine Zh (.bool false) (Zc (.bool false) (Zd (Zf (Zq (Zp ?_)))))
 rw [show Zb7 n low high = false from Z4 (by omega)]
 exact Zm (v := .bool false) rfl rfl rfl (by kernel_rfl) rfl
 refine Zn (vx := Iv n) (vy := Iv low) rfl rfl (.bool false) rfl rfl (Zjf (by omega)) ?_
 refine Zb (.bool false) (Za (Za (Za (Zh (.bool false) (Zc (.bool false) (Zd (Zf (Zq (Zp ?_)))))))))
 rw [show Zb7 n low high = false from Z4 (by omega)]
 exact Zm (v := .bool false) rfl rfl rfl (by kernel_rfl) rfl
theorem Zp4 (x : Item) : Zar Try.prog G 43 [Zao x] [] (.bool (decide (Zb4 x))) [] := by
  refine Zcu (fn := Try.f43) (nt := 12) rfl rfl rfl rfl ?_
  refine Zbo 1 (H' := [hole]) rfl ?_
  refine Zj (Zl (Zbx (v := Zao x) (b := bxB 110 (Zs x)) (nid := 0) (H' := [bxB 110 (Zs x)]) (Zc (.bool false) (Zd (Zf (Zj (Zl (Ze (b := 0) (o := 0) (n := 0) (o' := 0) (Zk (p := pt 0 0) (v := Iv x.epoch) ?_)))))))))
  by_cases h1 : 1 ≤ x.epoch
  by_cases h2 : x.epoch ≤ 900000000
  refine Zt ((Ziv (G := G) x.epoch 1 900000000).res (congrArg Value.bool (Za2 (by omega) (by omega)))) (vals := [Iv x.epoch, Iv 1, Iv 900000000]) (res' := .bool true) rfl rfl rfl rfl rfl rfl ?_
  refine Zb (.bool true) (Ze (b := 0) (o := 0) (n := 1) (o' := 1) (Zk (p := pt 0 1) (v := Zc7 x.entry) ?_))
  refine Zt (Zkd (G := G) x.entry) (vals := [Zc7 x.entry]) (res' := Iv (Ze2 x.entry)) rfl rfl rfl rfl rfl rfl ?_
  by_cases h3 : (Ze2 x.entry) = 0
  refine Zn (vx := Iv (Ze2 x.entry)) (vy := Iv 0) rfl rfl (.bool true) rfl rfl (Zaw (by omega)) ?_
  refine Zh (.bool true) (Zc (.bool true) (Zd (Zf (Zq (Zp ?_)))))
  rw [show decide (Zb4 x) = true from decide_eq_true ⟨by omega, by omega, Zgm (by omega)⟩]
  exact Zm (v := .bool true) rfl rfl rfl (by kernel_rfl) rfl
  refine Zn (vx := Iv (Ze2 x.entry)) (vy := Iv 0) rfl rfl (.bool false) rfl rfl (Zbj (by omega)) ?_
  refine Zh (.bool false) (Zc (.bool false) (Zd (Zf (Zq (Zp ?_)))))
  rw [show decide (Zb4 x) = false from decide_eq_false (fun q => by first | (have := q.1; have := q.2.1; omega) | (exact Zaq (by omega) q.2.2))]
  exact Zm (v := .bool false) rfl rfl rfl (by kernel_rfl) rfl
  refine Zt ((Ziv (G := G) x.epoch 1 900000000).res (congrArg Value.bool (Z4 (by omega)))) (vals := [Iv x.epoch, Iv 1, Iv 900000000]) (res' := .bool false) rfl rfl rfl rfl rfl rfl ?_
  refine Zb (.bool false) (Za (Za (Za (Za (Zh (.bool false) (Zc (.bool false) (Zd (Zf (Zq (Zp ?_))))))))))
  rw [show decide (Zb4 x) = false from decide_eq_false (fun q => by first | (have := q.1; have := q.2.1; omega) | (exact Zaq (by omega) q.2.2))]
  exact Zm (v := .bool false) rfl rfl rfl (by kernel_rfl) rfl
  refine Zt ((Ziv (G := G) x.epoch 1 900000000).res (congrArg Value.bool (Z4 (by omega)))) (vals := [Iv x.epoch, Iv 1, Iv 900000000]) (res' := .bool false) rfl rfl rfl rfl rfl rfl ?_
  refine Zb (.bool false) (Za (Za (Za (Za (Zh (.bool false) (Zc (.bool false) (Zd (Zf (Zq (Zp ?_))))))))))
  rw [show decide (Zb4 x) = false from decide_eq_false (fun q => by first | (have := q.1; have := q.2.1; omega) | (exact Zaq (by omega) q.2.2))]
  exact Zm (v := .bool false) rfl rfl rfl (by kernel_rfl) rfl
theorem Zh5 (l : List Item) (n c : Nat) (hn : l.length = n) (hc : n ≤ c) (hb : n ≤ 1048576) : Zar Try.prog G 27 [slv 0 0 n c] [rwR Zi l] (Iv (Zfj l)) [rwR Zi l] := by
  refine Zcu (fn := Try.f27) (nt := 27) rfl rfl rfl rfl ?_
  refine Zj (Zl (Zc (Iv 0) (Zd (Zf (Zj (Zl (Zc (Iv 0) (Zd (Zf (Zj (Zj (Zl (Zb (slv 0 0 n c) (Zbd (p := slv 0 0 n c) (v := Iv (n : Nat)) (Zb (Iv 0) (Zd (Zf (Zbk ?_))))))))))))))))))
  refine Zf5 (fun x : Nat × Int => match x with | (i, ep) => [slv 0 0 n c, dead, dead, Iv ep, dead, dead, slv 0 0 n c, Iv (n : Nat), Iv (i : Nat)]) (fun x : Nat × Int => match x with | (i, ep) => [rwR Zi l]) (fun x : Nat × Int => match x with | (i, ep) => Zhm ep (l.drop i) = Zhm 0 l ∧ i ≤ n) (fun x : Nat × Int => match x with | (i, ep) => n - i) (0, 0) ⟨rfl, by omega⟩ ?_ ?_
  · refine Zbv (n := 1) rfl ?_ (by kernel_rfl) (by kernel_rfl)
    repeat (first | exact trivial | refine ⟨.inl rfl, ?_⟩ | refine ⟨.inr ⟨rfl, rfl⟩, ?_⟩ | refine ⟨.inr ⟨congrArg (Value.int .i64) (by first | omega | (dsimp only; omega)), rfl⟩, ?_⟩)
  rintro ⟨i, ep⟩ ⟨hR, hi⟩
  dsimp only at *
  refine Zbo 2 (H' := [rwR Zi l, hole, hole]) rfl ?_
  refine Zj (Zl ?_)
  by_cases h1 : (i : Nat) < (n : Nat)
  refine Zn (vx := Iv (i : Nat)) (vy := Iv (n : Nat)) rfl rfl (.bool true) rfl rfl (Zfb (by omega)) ?_
  refine Zd (Zf (Zj (Z5 rfl (Z8 (Zf (Zj (Zbk (Zj (Zl ?_)))))))))
  refine Zdv (b := 0) (o := 0) (j := i * 110) (m := n) (c := c) (sz := 110) (i := (i : Nat)) (k := .i64) rfl rfl rfl rfl rfl (by omega) (by omega) (by omega) ?_
  refine Zca (p := pt 0 (i * 110)) (v := Zao (l.getD i default)) rfl rfl rfl (Zef (n := 0) (m := 110) Zi rfl rfl rfl rfl (by have := hn; omega) (by omega)) ?_
  refine Zbg (b := bxB 110 (Zs (⟨0, (⟨0, 0, 0, ⟨#[]⟩, (⟨(⟨0, 0, 0, dz, 0⟩ : Head), 0, dz⟩ : Signed), (⟨0, 0, 0, 0, dz⟩ : Claim)⟩ : Entry)⟩ : Item))) (nid := 1) (H' := [rwR Zi l, bxB 110 (Zs (⟨0, (⟨0, 0, 0, ⟨#[]⟩, (⟨(⟨0, 0, 0, dz, 0⟩ : Head), 0, dz⟩ : Signed), (⟨0, 0, 0, 0, dz⟩ : Claim)⟩ : Entry)⟩ : Item)), hole]) (Zz (p := pt 1 0) (v := Zao (l.getD i default)) (b := 1) (blk := bxB 110 (Zs (l.getD i default))) (H' := [rwR Zi l, bxB 110 (Zs (l.getD i default)), hole]) (Zd (Zf (Zj (Zj (Zl (Zk (p := pt 1 0) (v := Zao (l.getD i default)) ?_)))))))
  refine Zt (Zp4 (G := G) (l.getD i default)) (vals := [Zao (l.getD i default)]) (res' := .bool (decide (Zb4 (l.getD i default)))) rfl rfl rfl rfl rfl rfl ?_
  rcases Bool.eq_false_or_eq_true (decide (Zb4 (l.getD i default))) with h2 | h2
  refine Zhv (vx := .bool (decide (Zb4 (l.getD i default)))) rfl rfl (.bool false) rfl (Eq.trans Zdx (congrArg (fun b => some (Value.bool !b)) h2)) ?_
  refine Zb (.bool false) (Ze (b := 1) (o := 0) (n := 0) (o' := 0) (Zk (p := pt 1 0) (v := Iv ((l.getD i default).epoch)) (Zb (Iv ep) ?_)))
  by_cases h3 : ((l.getD i default).epoch) < ep
  refine Zn (vx := Iv ((l.getD i default).epoch)) (vy := Iv ep) rfl rfl (.bool true) rfl rfl (Zfb (by omega)) ?_
  refine Zh (.bool true) (Zd (Zf (Z5 rfl (Zj (Zl (Zc (Iv 100) (Zd (Zf (Zq (Z2 (Zad (Z2 (Zb8 (Zad (Z2 (Zp ?_))))))))))))))))
  rw [show Zfj l = 100 from if_neg (fun q => by have q1 := q.1; have q2 := q.2; first | omega | (rw [Zj5 hR (by omega) (fun r => by first | (have := r.2; omega) | exact absurd r.1 (of_decide_eq_false (by assumption)))] at q2; cases q2))]
  exact Zm (v := Iv 100) rfl rfl rfl (by kernel_rfl) rfl
  refine Zn (vx := Iv ((l.getD i default).epoch)) (vy := Iv ep) rfl rfl (.bool false) rfl rfl (Zex (by omega)) ?_
  refine Zh (.bool false) (Zd (Zf (Zw rfl (Z8 (Zf (Zl (Ze (b := 1) (o := 0) (n := 0) (o' := 0) (Zk (p := pt 1 0) (v := Iv ((l.getD i default).epoch)) (Zc (Iv ((l.getD i default).epoch)) (Zd (Z1 (Zf (Zl ?_)))))))))))))
  refine Zn (vx := Iv (i : Nat)) (vy := Iv 1) rfl rfl (Iv ((i : Nat) + 1)) rfl rfl (Zci (by omega) (by omega) (by omega)) ?_
  refine Zb (Iv ((i : Nat) + 1)) (Zd ?_)
  refine Zaa ⟨((i + 1), ((l.getD i default).epoch)), ⟨Zqu hR (by omega) (of_decide_eq_true (by assumption)) (by omega), by omega⟩, by show n - (i + 1) < n - i; omega, ?_⟩
  refine Zbv (n := 1) rfl ?_ (by kernel_rfl) (by kernel_rfl)
  repeat (first | exact trivial | refine ⟨.inl rfl, ?_⟩ | refine ⟨.inr ⟨rfl, rfl⟩, ?_⟩ | refine ⟨.inr ⟨congrArg (Value.int .i64) (by first | omega | (dsimp only; omega)), rfl⟩, ?_⟩)
  refine Zhv (vx := .bool (decide (Zb4 (l.getD i default)))) rfl rfl (.bool true) rfl (Eq.trans Zdx (congrArg (fun b => some (Value.bool !b)) h2)) ?_
  refine Zb (.bool true) (Za (Za (Za (Za (Zh (.bool true) (Zd (Zf (Z5 rfl (Zj (Zl (Zc (Iv 100) (Zd (Zf (Zq (Z2 (Zad (Z2 (Zb8 (Zad (Z2 (Zp ?_)))))))))))))))))))))
  rw [show Zfj l = 100 from if_neg (fun q => by have q1 := q.1; have q2 := q.2; first | omega | (rw [Zj5 hR (by omega) (fun r => by first | (have := r.2; omega) | exact absurd r.1 (of_decide_eq_false (by assumption)))] at q2; cases q2))]
  exact Zm (v := Iv 100) rfl rfl rfl (by kernel_rfl) rfl
  refine Zn (vx := Iv (i : Nat)) (vy := Iv (n : Nat)) rfl rfl (.bool false) rfl rfl (Zex (by omega)) ?_
  refine Zd (Zf (Zj (Zw rfl (Zhh (Zgc (Zee (Zfs rfl (Zf (Zj (Zj (Zl (Zb (slv 0 0 n c) (Zbd (p := slv 0 0 n c) (v := Iv (n : Nat)) ?_)))))))))))))
  by_cases h4 : 2000 < (n : Nat)
  refine Zn (vx := Iv (n : Nat)) (vy := Iv 2000) rfl rfl (.bool true) rfl rfl (Zhn (by omega)) ?_
  refine Zd (Zf (Z5 rfl (Zj (Zl (Zc (Iv 100) (Zd (Zf (Zq (Z2 (Zp ?_))))))))))
  rw [show Zfj l = 100 from if_neg (fun q => by have q1 := q.1; have q2 := q.2; first | omega | (rw [Zj5 hR (by omega) (fun r => by first | (have := r.2; omega) | exact absurd r.1 (of_decide_eq_false (by assumption)))] at q2; cases q2))]
  exact Zm (v := Iv 100) rfl rfl rfl (by kernel_rfl) rfl
  refine Zn (vx := Iv (n : Nat)) (vy := Iv 2000) rfl rfl (.bool false) rfl rfl (Zgq (by omega)) ?_
  refine Zd (Zf (Zw rfl (Z8 (Zf (Zj (Zl (Zc (Iv 0) (Zd (Zf (Zq (Zp ?_)))))))))))
  rw [show Zfj l = 0 from if_pos ⟨by omega, by rw [← hR, List.drop_of_length_le (by omega)]; rfl⟩]
  exact Zm (v := Iv 0) rfl rfl rfl (by kernel_rfl) rfl
theorem Zng (l : List Item) (n c : Nat) (hn : l.length = n) (hc : n ≤ c) (hb : n ≤ 9223372036854775807) : Zar Try.prog G 23 [slv 0 0 n c] [rwR Zi l] (.bool (Zgf l)) [rwR Zi l] := by
  refine Zcu (fn := Try.f23) (nt := 21) rfl rfl rfl rfl ?_
  refine Zj (Zl (Zc (.bool false) (Zd (Zf (Zj (Zj (Zl (Zb (slv 0 0 n c) (Zbd (p := slv 0 0 n c) (v := Iv (n : Nat)) ?_)))))))))
  by_cases h1 : 60 < (n : Nat)
  refine Zn (vx := Iv (n : Nat)) (vy := Iv 60) rfl rfl (.bool true) rfl rfl (Zhn (by omega)) ?_
  refine Zd (Zf (Z5 rfl (Zj (Zl (Zc (.bool true) (Zd (Zf (Zq (Z2 (Zp ?_))))))))))
  rw [show Zgf l = true from by unfold Zgf; first | (rw [decide_eq_true (by omega : 60 < l.length)]; rfl) | (rw [Zru hR (by omega) (decide_eq_true (by omega)), Bool.or_true])]
  exact Zm (v := .bool true) rfl rfl rfl (by kernel_rfl) rfl
  refine Zn (vx := Iv (n : Nat)) (vy := Iv 60) rfl rfl (.bool false) rfl rfl (Zgq (by omega)) ?_
  refine Zd (Zf (Zw rfl (Z8 (Zf (Zj (Zj (Zl (Zc (Iv 0) (Zd (Zf (Zbk ?_)))))))))))
  refine Zf5 (fun i : Nat => [slv 0 0 n c, dead, dead, Iv (i : Nat), slv 0 0 n c, Iv (n : Nat), .bool false]) (fun i : Nat => [rwR Zi l]) (fun i : Nat => (l.drop i).any Zxq = l.any Zxq ∧ i ≤ n) (fun i : Nat => n - i) 0 ⟨rfl, by omega⟩ ?_ ?_
  · refine Zbv (n := 1) rfl ?_ (by kernel_rfl) (by kernel_rfl)
    repeat (first | exact trivial | refine ⟨.inl rfl, ?_⟩ | refine ⟨.inr ⟨rfl, rfl⟩, ?_⟩ | refine ⟨.inr ⟨congrArg (Value.int .i64) (by first | omega | (dsimp only; omega)), rfl⟩, ?_⟩)
  rintro i ⟨hR, hi⟩
  refine Zbo 1 (H' := [rwR Zi l, hole]) rfl ?_
  refine Zj (Zj (Zl (Zb (Iv (i : Nat)) (Zb (slv 0 0 n c) (Zbd (p := slv 0 0 n c) (v := Iv (n : Nat)) ?_)))))
  by_cases h2 : (i : Nat) < (n : Nat)
  refine Zn (vx := Iv (i : Nat)) (vy := Iv (n : Nat)) rfl rfl (.bool true) rfl rfl (Zfb (by omega)) ?_
  refine Zd (Zf (Z5 rfl (Z8 (Zf (Zj (Zbk (Zj (Zl (Zb (slv 0 0 n c) (Zb (Iv (i : Nat)) ?_))))))))))
  refine Zdv (b := 0) (o := 0) (j := i * 110) (m := n) (c := c) (sz := 110) (i := (i : Nat)) (k := .i64) rfl rfl rfl rfl rfl (by omega) (by omega) (by omega) ?_
  refine Za1 (b := 0) (o := i * 110) (n := 1) (o' := i * 110 + 1) rfl rfl rfl rfl (by omega) ?_
  refine Za1 (b := 0) (o := i * 110 + 1) (n := 3) (o' := i * 110 + 4) rfl rfl rfl rfl (by omega) ?_
  refine Zca (p := pt 0 (i * 110 + 4)) (v := .string (((l.getD i default).entry).text)) rfl rfl rfl (Zh8 Zi (l := l) (i := i) (k := 4) (m := 110) rfl rfl rfl rfl (by have := hn; omega) (by omega) (by kernel_rfl) rfl) ?_
  refine Zbd (p := .string (((l.getD i default).entry).text)) (v := Iv ((((((l.getD i default).entry).text).size) : Nat) : Int)) ?_
  by_cases h3 : 1000 < ((((((l.getD i default).entry).text).size) : Nat) : Int)
  refine Zn (vx := Iv ((((((l.getD i default).entry).text).size) : Nat) : Int)) (vy := Iv 1000) rfl rfl (.bool true) rfl rfl (Zhn (by omega)) ?_
  refine Zd (Zf (Z5 rfl (Zj (Zl (Zc (.bool true) (Zd (Zf (Zq (Zad (Z2 (Zb8 (Zad (Z2 (Zp ?_))))))))))))))
  rw [show Zgf l = true from by unfold Zgf; first | (rw [decide_eq_true (by omega : 60 < l.length)]; rfl) | (rw [Zru hR (by omega) (decide_eq_true (by omega)), Bool.or_true])]
  exact Zm (v := .bool true) rfl rfl rfl (by kernel_rfl) rfl
  refine Zn (vx := Iv ((((((l.getD i default).entry).text).size) : Nat) : Int)) (vy := Iv 1000) rfl rfl (.bool false) rfl rfl (Zgq (by omega)) ?_
  refine Zd (Zf (Zw rfl (Z8 (Z1 (Zf (Zl (Zb (Iv (i : Nat)) ?_)))))))
  refine Zn (vx := Iv (i : Nat)) (vy := Iv 1) rfl rfl (Iv ((i : Nat) + 1)) rfl rfl (Zci (by omega) (by omega) (by omega)) ?_
  refine Zc (Iv ((i : Nat) + 1)) (Zd ?_)
  refine Zaa ⟨(i + 1), ⟨Zt3 hR (by omega) (decide_eq_false (by omega)), by omega⟩, by show n - (i + 1) < n - i; omega, ?_⟩
  refine Zbv (n := 1) rfl ?_ (by kernel_rfl) (by kernel_rfl)
  repeat (first | exact trivial | refine ⟨.inl rfl, ?_⟩ | refine ⟨.inr ⟨rfl, rfl⟩, ?_⟩ | refine ⟨.inr ⟨congrArg (Value.int .i64) (by first | omega | (dsimp only; omega)), rfl⟩, ?_⟩)
  refine Zn (vx := Iv (i : Nat)) (vy := Iv (n : Nat)) rfl rfl (.bool false) rfl rfl (Zex (by omega)) ?_
  refine Zd (Zf (Zw rfl (Zhh (Zgc (Zee (Zfs rfl (Zf (Zj (Zl (Zc (.bool false) (Zd (Zf (Zq (Zp ?_))))))))))))))
  rw [show Zgf l = false from by unfold Zgf; rw [decide_eq_false (by omega : ¬ 60 < l.length), Bool.false_or, ← hR, List.drop_of_length_le (by omega)]; rfl]
  exact Zm (v := .bool false) rfl rfl rfl (by kernel_rfl) rfl
theorem Zi1 (l m : List Item) (n c p d : Nat) (hn : l.length = n) (hm : m.length = p) (hc : n ≤ c) (hd : p ≤ d) (hb : n ≤ 1048576) (hb2 : p ≤ 1048576) : Zar Try.prog G 22 [slv 0 0 n c, slv 1 0 p d] [rwR Zi l, rwR Zi m] (.bool (Zcs l m)) [rwR Zi l, rwR Zi m] := by
  refine Zcu (fn := Try.f22) (nt := 26) rfl rfl rfl rfl ?_
  refine Zj (Zl (Zc (.bool false) (Zd (Zf (Zj (Zj (Zl (Zb (slv 0 0 n c) (Zbd (p := slv 0 0 n c) (v := Iv (n : Nat)) (Zb (slv 1 0 p d) (Zbd (p := slv 1 0 p d) (v := Iv (p : Nat)) ?_)))))))))))
  by_cases h1 : (n : Nat) ≠ (p : Nat)
  refine Zn (vx := Iv (n : Nat)) (vy := Iv (p : Nat)) rfl rfl (.bool true) rfl rfl (Zdd (by omega)) ?_
  refine Zd (Zf (Z5 rfl (Zj (Zl (Zc (.bool false) (Zd (Zf (Zq (Z2 (Zp ?_))))))))))
  rw [show Zcs l m = false from by first | exact Zni (by omega) | exact Zso i (by omega) (by assumption)]
  exact Zm (v := .bool false) rfl rfl rfl (by kernel_rfl) rfl
  refine Zn (vx := Iv (n : Nat)) (vy := Iv (p : Nat)) rfl rfl (.bool false) rfl rfl (Zdc (by omega)) ?_
  refine Zd (Zf (Zw rfl (Z8 (Zf (Zj (Zj (Zl (Zc (Iv 0) (Zd (Zf (Zbk ?_)))))))))))
  refine Zf5 (fun i : Nat => [slv 0 0 n c, slv 1 0 p d, dead, dead, dead, Iv (i : Nat), slv 0 0 n c, Iv (n : Nat), slv 1 0 p d, Iv (p : Nat), .bool false]) (fun i : Nat => [rwR Zi l, rwR Zi m]) (fun i : Nat => (∀ j, j < i → Z3 (l.getD j default) (m.getD j default) = true) ∧ i ≤ n) (fun i : Nat => n - i) 0 ⟨fun _ h => absurd h (by omega), by omega⟩ ?_ ?_
  · refine Zbv (n := 2) rfl ?_ (by kernel_rfl) (by kernel_rfl)
    repeat (first | exact trivial | refine ⟨.inl rfl, ?_⟩ | refine ⟨.inr ⟨rfl, rfl⟩, ?_⟩ | refine ⟨.inr ⟨congrArg (Value.int .i64) (by first | omega | (dsimp only; omega)), rfl⟩, ?_⟩)
  rintro i ⟨hR, hi⟩
  refine Zbo 1 (H' := [rwR Zi l, rwR Zi m, hole]) rfl ?_
  refine Zj (Zj (Zl (Zb (Iv (i : Nat)) (Zb (slv 0 0 n c) (Zbd (p := slv 0 0 n c) (v := Iv (n : Nat)) ?_)))))
  by_cases h2 : (i : Nat) < (n : Nat)
  refine Zn (vx := Iv (i : Nat)) (vy := Iv (n : Nat)) rfl rfl (.bool true) rfl rfl (Zfb (by omega)) ?_
  refine Zd (Zf (Z5 rfl (Z8 (Zf (Zj (Zbk (Zj ?_)))))))
  refine Zdg (by kernel_rfl) ?_
  refine Zb (slv 0 0 n c) (Zb (Iv (i : Nat)) ?_)
  refine Zdv (b := 0) (o := 0) (j := i * 110) (m := n) (c := c) (sz := 110) (i := (i : Nat)) (k := .i64) rfl rfl rfl rfl rfl (by omega) (by omega) (by omega) ?_
  refine Zca (p := pt 0 (i * 110)) (v := Zao (l.getD i default)) rfl rfl rfl (Zef (n := 0) (m := 110) Zi rfl rfl rfl rfl (by have := hn; omega) (by omega)) ?_
  refine Zb (slv 1 0 p d) (Zb (Iv (i : Nat)) ?_)
  refine Zdv (b := 1) (o := 0) (j := i * 110) (m := p) (c := d) (sz := 110) (i := (i : Nat)) (k := .i64) rfl rfl rfl rfl rfl (by omega) (by omega) (by omega) ?_
  refine Zca (p := pt 1 (i * 110)) (v := Zao (m.getD i default)) rfl rfl rfl (Zef (n := 0) (m := 110) Zi rfl rfl rfl rfl (by have := hm; omega) (by omega)) ?_
  rcases Bool.eq_false_or_eq_true (Z3 (l.getD i default) (m.getD i default)) with h3 | h3
  refine Zn (vx := Zao (l.getD i default)) (vy := Zao (m.getD i default)) rfl rfl (.bool false) rfl rfl (Eq.trans (Zpp (l.getD i default) (m.getD i default)) (by rw [h3] <;> rfl)) ?_
  refine Za9 (Zap [[], [], [0, 1], [0, 1, 2], [], [], [4, 5], [4, 5, 6], [0, 1, 2, 3, 4, 5, 6, 7]] (by kernel_rfl) (by kernel_rfl)) ?_
  refine Zf (Zw rfl (Z8 (Z1 (Zf (Zl (Zb (Iv (i : Nat)) ?_))))))
  refine Zn (vx := Iv (i : Nat)) (vy := Iv 1) rfl rfl (Iv ((i : Nat) + 1)) rfl rfl (Zci (by omega) (by omega) (by omega)) ?_
  refine Zc (Iv ((i : Nat) + 1)) (Zd ?_)
  refine Zaa ⟨(i + 1), ⟨fun j hj => by rcases Nat.lt_or_ge j i with h | h; exact hR j h; obtain rfl : j = i := (by omega); assumption, by omega⟩, by show n - (i + 1) < n - i; omega, ?_⟩
  refine Zbv (n := 2) rfl ?_ (by kernel_rfl) (by kernel_rfl)
  repeat (first | exact trivial | refine ⟨.inl rfl, ?_⟩ | refine ⟨.inr ⟨rfl, rfl⟩, ?_⟩ | refine ⟨.inr ⟨congrArg (Value.int .i64) (by first | omega | (dsimp only; omega)), rfl⟩, ?_⟩)
  refine Zn (vx := Zao (l.getD i default)) (vy := Zao (m.getD i default)) rfl rfl (.bool true) rfl rfl (Eq.trans (Zpp (l.getD i default) (m.getD i default)) (by rw [h3] <;> rfl)) ?_
  refine Za9 (Zap [[], [], [0, 1], [0, 1, 2], [], [], [4, 5], [4, 5, 6], [0, 1, 2, 3, 4, 5, 6, 7]] (by kernel_rfl) (by kernel_rfl)) ?_
  refine Zf (Z5 rfl (Zj (Zl (Zc (.bool false) (Zd (Zf (Zq (Zad (Z2 (Zb8 (Zad (Z2 (Zp ?_)))))))))))))
  rw [show Zcs l m = false from by first | exact Zni (by omega) | exact Zso i (by omega) (by assumption)]
  exact Zm (v := .bool false) rfl rfl rfl (by kernel_rfl) rfl
  refine Zn (vx := Iv (i : Nat)) (vy := Iv (n : Nat)) rfl rfl (.bool false) rfl rfl (Zex (by omega)) ?_
  refine Zd (Zf (Zw rfl (Zhh (Zgc (Zee (Zfs rfl (Zf (Zj (Zl (Zc (.bool true) (Zd (Zf (Zq (Zp ?_))))))))))))))
  rw [show Zcs l m = true from Zsp (by omega) (fun j hj => hR j (by omega))]
  exact Zm (v := .bool true) rfl rfl rfl (by kernel_rfl) rfl
end Go.Flat
