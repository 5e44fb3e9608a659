/- Walks. -/
import Derived.Test.YtoafdomlefoenaaE2
set_option linter.unusedVariables false
set_option linter.unusedSimpArgs false
set_option maxRecDepth 20000
namespace Go.Flat
open Go.Proofs
variable {G : Glob}
theorem Zla (l : List Item) (i : Nat) (h : i < l.length) : l.drop i = l.getD i default :: l.drop (i + 1) := by
 rw [List.drop_eq_getElem_cons h, List.getD_eq_getElem?_getD, List.getElem?_eq_getElem h]; rfl
def Zhx : Int → List Item → Bool
  | _, [] => true
  | ep, x :: l => decide (Zb7 x) && decide (ep ≤ x.epoch) && Zhx x.epoch l
def Zec (l : List Item) : Prop := l.length ≤ 2000 ∧ Zhx 0 l = true
instance (l : List Item) : Decidable (Zec l) := inferInstanceAs (Decidable (_ ∧ _))
def Zfo (l : List Item) : Int := if Zec l then 0 else 100
theorem Zbv {l : List Item} (h : Zfo l = 0) : Zec l := by
 unfold Zfo at h
 split at h
 ·assumption
 ·omega
theorem Zai {l : List Item} (h : ¬ Zfo l = 0) : ¬ Zec l := fun q => h (if_pos q)
theorem Zqz {ep : Int} {l : List Item} {i : Nat} {R : Bool} (hR : Zhx ep (l.drop i) = R) (hi : i < l.length) (h1 : Zb7 (l.getD i default)) (h2 : ep ≤ (l.getD i default).epoch) : Zhx (l.getD i default).epoch (l.drop (i + 1)) = R := by
 rw [Zla l i hi, Zhx, decide_eq_true h1, decide_eq_true h2] at hR; simpa using hR
theorem Zka {ep : Int} {l : List Item} {i : Nat} {R : Bool} (hR : Zhx ep (l.drop i) = R) (hi : i < l.length) (h : ¬ (Zb7 (l.getD i default) ∧ ep ≤ (l.getD i default).epoch)) : R = false := by
 rw [Zla l i hi, Zhx] at hR
 rw [← hR]
 by_cases h1 : Zb7 (l.getD i default)
 ·rw [decide_eq_false (fun q => h ⟨h1, q⟩ : ¬ ep ≤ (l.getD i default).epoch)]; simp
 ·rw [decide_eq_false h1]; simp
def Z1t (l : List Item) (i : Nat) : Int := if i = 0 then 0 else (l.getD (i - 1) default).epoch
def Zyl (x : Item) : Bool := decide (1000 < x.entry.text.size)
def Zgk (l : List Item) : Bool := decide (60 < l.length) || l.any Zyl
theorem Zui {l : List Item} {i : Nat} {p : Item → Bool} {R : Bool} (hR : (l.drop i).any p = R) (hi : i < l.length) (h : p (l.getD i default) = false) : (l.drop (i + 1)).any p = R := by
 rw [Zla l i hi, List.any_cons, h, Bool.false_or] at hR; exact hR
theorem Zr0 {l : List Item} {i : Nat} {p : Item → Bool} {R : Bool} (hR : (l.drop i).any p = R) (hi : i < l.length) (h : p (l.getD i default) = true) : R = true := by
 rw [Zla l i hi, List.any_cons, h, Bool.true_or] at hR; exact hR.symm
def Zcc (l m : List Item) : Bool := decide (l.length = m.length) && (List.range l.length).all fun i => Z5 (l.getD i default) (m.getD i default)
theorem Zs1 {l m : List Item} (h : l.length = m.length) (hR : ∀ j, j < l.length → Z5 (l.getD j default) (m.getD j default) = true) : Zcc l m = true := by
 unfold Zcc
 rw [decide_eq_true h, Bool.true_and, List.all_eq_true]
 intro j hj
 exact hR j (List.mem_range.1 hj)
theorem Znr {l m : List Item} (h : l.length ≠ m.length) : Zcc l m = false := by
 unfold Zcc
 rw [decide_eq_false h, Bool.false_and]
theorem Zs0 {l m : List Item} (i : Nat) (hi : i < l.length) (h : Z5 (l.getD i default) (m.getD i default) = false) : Zcc l m = false := by
  cases hs : Zcc l m with
  | false => rfl
  | true =>
    unfold Zcc at hs
    rw [Bool.and_eq_true, List.all_eq_true] at hs
    have := hs.2 i (List.mem_range.2 hi)
    rw [h] at this; cases this
theorem Zl4 (l : List Item) : Zcc l l = true := Zs1 rfl fun j _ => Za2 _
theorem Zi3 (n low high : Int) : Zas Try.prog G 57 [Iv n, Iv low, Iv high] [] (.bool (Zb9 n low high)) [] := by
 refine Zcv (fn := Try.f57) (nt := 15) rfl rfl rfl rfl ?_
 refine Zj (Zl (Zc (.bool false) (Ze (Zf (Zj (Zl (Zb (Iv n) (Zb (Iv low) ?_))))))))
 by_cases h1 : low ≤ n
 refine Zn (vx := Iv n) (vy := Iv low) rfl rfl (.bool true) rfl rfl (Zhw (by omega)) ?_
 refine Zb (.bool true) (Zb (Iv n) (Zb (Iv high) ?_))
 by_cases h2 : n ≤ high
 refine Zn (vx := Iv n) (vy := Iv high) rfl rfl (.bool true) rfl rfl (Zni (by omega)) ?_
 refine Zg (.bool true) (Zc (.bool true) (Ze (Zf (Zq (Zp ?_)))))
 rw [show Zb9 n low high = true from Za5 (by omega) (by omega)]
 exact Zm (v := .bool true) rfl rfl rfl (by kernel_rfl) rfl
 refine Zn (vx := Iv n) (vy := Iv high) rfl rfl (.bool false) rfl rfl (Znh (by omega)) ?_
 refine Zg (.bool false) (Zc (.bool false) (Ze (Zf (Zq (Zp ?_)))))
 rw [show Zb9 n low high = false from Z6 (by omega)]
 exact Zm (v := .bool false) rfl rfl rfl (by kernel_rfl) rfl
 refine Zn (vx := Iv n) (vy := Iv low) rfl rfl (.bool false) rfl rfl (Zjl (by omega)) ?_
 refine Zb (.bool false) (Za (Za (Za (Zg (.bool false) (Zc (.bool false) (Ze (Zf (Zq (Zp ?_)))))))))
 rw [show Zb9 n low high = false from Z6 (by omega)]
 exact Zm (v := .bool false) rfl rfl rfl (by kernel_rfl) rfl
theorem Zqa (x : Item) : Zas Try.prog G 43 [Zan x] [] (.bool (decide (Zb7 x))) [] := by
  refine Zcv (fn := Try.f43) (nt := 12) rfl rfl rfl rfl ?_
  refine Zbq 1 (H' := [hole]) rfl ?_
  refine Zj (Zl (Zbw (v := Zan x) (b := bxB 110 (Zt x)) (nid := 0) (H' := [bxB 110 (Zt x)]) (Zc (.bool false) (Ze (Zf (Zj (Zl (Zd (b := 0) (o := 0) (n := 0) (o' := 0) (Zi (p := pt 0 0) (v := Iv x.epoch) ?_)))))))))
  by_cases h1 : 1 ≤ x.epoch
  by_cases h2 : x.epoch ≤ 900000000
  refine Zs ((Zi3 (G := G) x.epoch 1 900000000).res (congrArg Value.bool (Za5 (by omega) (by omega)))) (vals := [Iv x.epoch, Iv 1, Iv 900000000]) (res' := .bool true) rfl rfl rfl rfl rfl rfl ?_
  refine Zb (.bool true) (Zd (b := 0) (o := 0) (n := 1) (o' := 1) (Zi (p := pt 0 1) (v := Zdc x.entry) ?_))
  refine Zs (Zkj (G := G) x.entry) (vals := [Zdc x.entry]) (res' := Iv (Ze4 x.entry)) rfl rfl rfl rfl rfl rfl ?_
  by_cases h3 : (Ze4 x.entry) = 0
  refine Zn (vx := Iv (Ze4 x.entry)) (vy := Iv 0) rfl rfl (.bool true) rfl rfl (Zav (by omega)) ?_
  refine Zg (.bool true) (Zc (.bool true) (Ze (Zf (Zq (Zp ?_)))))
  rw [show decide (Zb7 x) = true from decide_eq_true ⟨by omega, by omega, Zgs (by omega)⟩]
  exact Zm (v := .bool true) rfl rfl rfl (by kernel_rfl) rfl
  refine Zn (vx := Iv (Ze4 x.entry)) (vy := Iv 0) rfl rfl (.bool false) rfl rfl (Zbb (by omega)) ?_
  refine Zg (.bool false) (Zc (.bool false) (Ze (Zf (Zq (Zp ?_)))))
  rw [show decide (Zb7 x) = false from decide_eq_false (fun q => by first | (have := q.1; have := q.2.1; omega) | (exact Zap (by omega) q.2.2))]
  exact Zm (v := .bool false) rfl rfl rfl (by kernel_rfl) rfl
  refine Zs ((Zi3 (G := G) x.epoch 1 900000000).res (congrArg Value.bool (Z6 (by omega)))) (vals := [Iv x.epoch, Iv 1, Iv 900000000]) (res' := .bool false) rfl rfl rfl rfl rfl rfl ?_
  refine Zb (.bool false) (Za (Za (Za (Za (Zg (.bool false) (Zc (.bool false) (Ze (Zf (Zq (Zp ?_))))))))))
  rw [show decide (Zb7 x) = false from decide_eq_false (fun q => by first | (have := q.1; have := q.2.1; omega) | (exact Zap (by omega) q.2.2))]
  exact Zm (v := .bool false) rfl rfl rfl (by kernel_rfl) rfl
  refine Zs ((Zi3 (G := G) x.epoch 1 900000000).res (congrArg Value.bool (Z6 (by omega)))) (vals := [Iv x.epoch, Iv 1, Iv 900000000]) (res' := .bool false) rfl rfl rfl rfl rfl rfl ?_
  refine Zb (.bool false) (Za (Za (Za (Za (Zg (.bool false) (Zc (.bool false) (Ze (Zf (Zq (Zp ?_))))))))))
  rw [show decide (Zb7 x) = false from decide_eq_false (fun q => by first | (have := q.1; have := q.2.1; omega) | (exact Zap (by omega) q.2.2))]
  exact Zm (v := .bool false) rfl rfl rfl (by kernel_rfl) rfl
theorem Zif (l : List Item) (n c : Nat) (hn : l.length = n) (hc : n ≤ c) (hb : n ≤ 1048576) : Zas Try.prog G 27 [slv 0 0 n c] [rwR Zk l] (Iv (Zfo l)) [rwR Zk l] := by
  refine Zcv (fn := Try.f27) (nt := 27) rfl rfl rfl rfl ?_
  refine Zj (Zl (Zc (Iv 0) (Ze (Zf (Zj (Zl (Zc (Iv 0) (Ze (Zf (Zj (Zj (Zl (Zb (slv 0 0 n c) (Zba (p := slv 0 0 n c) (v := Iv (n : Nat)) (Zb (Iv 0) (Ze (Zf (Zbm ?_))))))))))))))))))
  refine Zf9 (fun x : Nat × Int => match x with | (i, ep) => [slv 0 0 n c, dead, dead, Iv ep, dead, dead, slv 0 0 n c, Iv (n : Nat), Iv (i : Nat)]) (fun x : Nat × Int => match x with | (i, ep) => [rwR Zk l]) (fun x : Nat × Int => match x with | (i, ep) => Zhx ep (l.drop i) = Zhx 0 l ∧ i ≤ n) (fun x : Nat × Int => match x with | (i, ep) => n - i) (0, 0) ⟨rfl, by omega⟩ ?_ ?_
  · refine Zbz (n := 1) rfl ?_ (by kernel_rfl) (by kernel_rfl)
    repeat (first | exact trivial | refine ⟨.inl rfl, ?_⟩ | refine ⟨.inr ⟨rfl, rfl⟩, ?_⟩ | refine ⟨.inr ⟨congrArg (Value.int .i64) (by first | omega | (dsimp only; omega)), rfl⟩, ?_⟩)
  rintro ⟨i, ep⟩ ⟨hR, hi⟩
  dsimp only at *
  refine Zbq 2 (H' := [rwR Zk l, hole, hole]) rfl ?_
  refine Zj (Zl ?_)
  by_cases h1 : (i : Nat) < (n : Nat)
  refine Zn (vx := Iv (i : Nat)) (vy := Iv (n : Nat)) rfl rfl (.bool true) rfl rfl (Zfg (by omega)) ?_
  refine Ze (Zf (Zj (Z8 rfl (Z7 (Zf (Zj (Zbm (Zj (Zl ?_)))))))))
  refine Zd0 (b := 0) (o := 0) (j := i * 110) (m := n) (c := c) (sz := 110) (i := (i : Nat)) (k := .i64) rfl rfl rfl rfl rfl (by omega) (by omega) (by omega) ?_
  refine Zcp (p := pt 0 (i * 110)) (v := Zan (l.getD i default)) rfl rfl rfl (Zei (n := 0) (m := 110) Zk rfl rfl rfl rfl (by have := hn; omega) (by omega)) ?_
  refine Za4 (b := bxB 110 (Zt (⟨0, (⟨0, 0, 0, ⟨#[]⟩, (⟨(⟨0, 0, 0, dz, 0⟩ : Head), 0, dz⟩ : Signed), (⟨0, 0, 0, 0, dz⟩ : Claim)⟩ : Entry)⟩ : Item))) (nid := 1) (H' := [rwR Zk l, bxB 110 (Zt (⟨0, (⟨0, 0, 0, ⟨#[]⟩, (⟨(⟨0, 0, 0, dz, 0⟩ : Head), 0, dz⟩ : Signed), (⟨0, 0, 0, 0, dz⟩ : Claim)⟩ : Entry)⟩ : Item)), hole]) (Zy (p := pt 1 0) (v := Zan (l.getD i default)) (b := 1) (blk := bxB 110 (Zt (l.getD i default))) (H' := [rwR Zk l, bxB 110 (Zt (l.getD i default)), hole]) (Ze (Zf (Zj (Zj (Zl (Zi (p := pt 1 0) (v := Zan (l.getD i default)) ?_)))))))
  refine Zs (Zqa (G := G) (l.getD i default)) (vals := [Zan (l.getD i default)]) (res' := .bool (decide (Zb7 (l.getD i default)))) rfl rfl rfl rfl rfl rfl ?_
  rcases Bool.eq_false_or_eq_true (decide (Zb7 (l.getD i default))) with h2 | h2
  refine Zd1 (vx := .bool (decide (Zb7 (l.getD i default)))) rfl rfl (.bool false) rfl (Eq.trans Zbl (congrArg (fun b => some (Value.bool !b)) h2)) ?_
  refine Zb (.bool false) (Zd (b := 1) (o := 0) (n := 0) (o' := 0) (Zi (p := pt 1 0) (v := Iv ((l.getD i default).epoch)) (Zb (Iv ep) ?_)))
  by_cases h3 : ((l.getD i default).epoch) < ep
  refine Zn (vx := Iv ((l.getD i default).epoch)) (vy := Iv ep) rfl rfl (.bool true) rfl rfl (Zfg (by omega)) ?_
  refine Zg (.bool true) (Ze (Zf (Z8 rfl (Zj (Zl (Zc (Iv 100) (Ze (Zf (Zq (Z4 (Zag (Z4 (Zca (Zag (Z4 (Zp ?_))))))))))))))))
  rw [show Zfo l = 100 from if_neg (fun q => by have q1 := q.1; have q2 := q.2; first | omega | (rw [Zka hR (by omega) (fun r => by first | (have := r.2; omega) | exact absurd r.1 (of_decide_eq_false (by assumption)))] at q2; cases q2))]
  exact Zm (v := Iv 100) rfl rfl rfl (by kernel_rfl) rfl
  refine Zn (vx := Iv ((l.getD i default).epoch)) (vy := Iv ep) rfl rfl (.bool false) rfl rfl (Zff (by omega)) ?_
  refine Zg (.bool false) (Ze (Zf (Zw rfl (Z7 (Zf (Zl (Zd (b := 1) (o := 0) (n := 0) (o' := 0) (Zi (p := pt 1 0) (v := Iv ((l.getD i default).epoch)) (Zc (Iv ((l.getD i default).epoch)) (Ze (Z1 (Zf (Zl ?_)))))))))))))
  refine Zn (vx := Iv (i : Nat)) (vy := Iv 1) rfl rfl (Iv ((i : Nat) + 1)) rfl rfl (Zci (by omega) (by omega) (by omega)) ?_
  refine Zb (Iv ((i : Nat) + 1)) (Ze ?_)
  refine Zab ⟨((i + 1), ((l.getD i default).epoch)), ⟨Zqz hR (by omega) (of_decide_eq_true (by assumption)) (by omega), by omega⟩, by show n - (i + 1) < n - i; omega, ?_⟩
  refine Zbz (n := 1) rfl ?_ (by kernel_rfl) (by kernel_rfl)
  repeat (first | exact trivial | refine ⟨.inl rfl, ?_⟩ | refine ⟨.inr ⟨rfl, rfl⟩, ?_⟩ | refine ⟨.inr ⟨congrArg (Value.int .i64) (by first | omega | (dsimp only; omega)), rfl⟩, ?_⟩)
  refine Zd1 (vx := .bool (decide (Zb7 (l.getD i default)))) rfl rfl (.bool true) rfl (Eq.trans Zbl (congrArg (fun b => some (Value.bool !b)) h2)) ?_
  refine Zb (.bool true) (Za (Za (Za (Za (Zg (.bool true) (Ze (Zf (Z8 rfl (Zj (Zl (Zc (Iv 100) (Ze (Zf (Zq (Z4 (Zag (Z4 (Zca (Zag (Z4 (Zp ?_)))))))))))))))))))))
  rw [show Zfo l = 100 from if_neg (fun q => by have q1 := q.1; have q2 := q.2; first | omega | (rw [Zka hR (by omega) (fun r => by first | (have := r.2; omega) | exact absurd r.1 (of_decide_eq_false (by assumption)))] at q2; cases q2))]
  exact Zm (v := Iv 100) rfl rfl rfl (by kernel_rfl) rfl
  refine Zn (vx := Iv (i : Nat)) (vy := Iv (n : Nat)) rfl rfl (.bool false) rfl rfl (Zff (by omega)) ?_
  refine Ze (Zf (Zj (Zw rfl (Zhq (Zgh (Zeh (Zfw rfl (Zf (Zj (Zj (Zl (Zb (slv 0 0 n c) (Zba (p := slv 0 0 n c) (v := Iv (n : Nat)) ?_)))))))))))))
  by_cases h4 : 2000 < (n : Nat)
  refine Zn (vx := Iv (n : Nat)) (vy := Iv 2000) rfl rfl (.bool true) rfl rfl (Zhz (by omega)) ?_
  refine Ze (Zf (Z8 rfl (Zj (Zl (Zc (Iv 100) (Ze (Zf (Zq (Z4 (Zp ?_))))))))))
  rw [show Zfo l = 100 from if_neg (fun q => by have q1 := q.1; have q2 := q.2; first | omega | (rw [Zka hR (by omega) (fun r => by first | (have := r.2; omega) | exact absurd r.1 (of_decide_eq_false (by assumption)))] at q2; cases q2))]
  exact Zm (v := Iv 100) rfl rfl rfl (by kernel_rfl) rfl
  refine Zn (vx := Iv (n : Nat)) (vy := Iv 2000) rfl rfl (.bool false) rfl rfl (Zhy (by omega)) ?_
  refine Ze (Zf (Zw rfl (Z7 (Zf (Zj (Zl (Zc (Iv 0) (Ze (Zf (Zq (Zp ?_)))))))))))
  rw [show Zfo l = 0 from if_pos ⟨by omega, by rw [← hR, List.drop_of_length_le (by omega)]; rfl⟩]
  exact Zm (v := Iv 0) rfl rfl rfl (by kernel_rfl) rfl
theorem Znp (l : List Item) (n c : Nat) (hn : l.length = n) (hc : n ≤ c) (hb : n ≤ 9223372036854775807) : Zas Try.prog G 23 [slv 0 0 n c] [rwR Zk l] (.bool (Zgk l)) [rwR Zk l] := by
  refine Zcv (fn := Try.f23) (nt := 21) rfl rfl rfl rfl ?_
  refine Zj (Zl (Zc (.bool false) (Ze (Zf (Zj (Zj (Zl (Zb (slv 0 0 n c) (Zba (p := slv 0 0 n c) (v := Iv (n : Nat)) ?_)))))))))
  by_cases h1 : 60 < (n : Nat)
  refine Zn (vx := Iv (n : Nat)) (vy := Iv 60) rfl rfl (.bool true) rfl rfl (Zhz (by omega)) ?_
  refine Ze (Zf (Z8 rfl (Zj (Zl (Zc (.bool true) (Ze (Zf (Zq (Z4 (Zp ?_))))))))))
  rw [show Zgk l = true from by unfold Zgk; first | (rw [decide_eq_true (by omega : 60 < l.length)]; rfl) | (rw [Zr0 hR (by omega) (decide_eq_true (by omega)), Bool.or_true])]
  exact Zm (v := .bool true) rfl rfl rfl (by kernel_rfl) rfl
  refine Zn (vx := Iv (n : Nat)) (vy := Iv 60) rfl rfl (.bool false) rfl rfl (Zhy (by omega)) ?_
  refine Ze (Zf (Zw rfl (Z7 (Zf (Zj (Zj (Zl (Zc (Iv 0) (Ze (Zf (Zbm ?_)))))))))))
  refine Zf9 (fun i : Nat => [slv 0 0 n c, dead, dead, Iv (i : Nat), slv 0 0 n c, Iv (n : Nat), .bool false]) (fun i : Nat => [rwR Zk l]) (fun i : Nat => (l.drop i).any Zyl = l.any Zyl ∧ i ≤ n) (fun i : Nat => n - i) 0 ⟨rfl, by omega⟩ ?_ ?_
  · refine Zbz (n := 1) rfl ?_ (by kernel_rfl) (by kernel_rfl)
    repeat (first | exact trivial | refine ⟨.inl rfl, ?_⟩ | refine ⟨.inr ⟨rfl, rfl⟩, ?_⟩ | refine ⟨.inr ⟨congrArg (Value.int .i64) (by first | omega | (dsimp only; omega)), rfl⟩, ?_⟩)
  rintro i ⟨hR, hi⟩
  refine Zbq 1 (H' := [rwR Zk l, hole]) rfl ?_
  refine Zj (Zj (Zl (Zb (Iv (i : Nat)) (Zb (slv 0 0 n c) (Zba (p := slv 0 0 n c) (v := Iv (n : Nat)) ?_)))))
  by_cases h2 : (i : Nat) < (n : Nat)
  refine Zn (vx := Iv (i : Nat)) (vy := Iv (n : Nat)) rfl rfl (.bool true) rfl rfl (Zfg (by omega)) ?_
  refine Ze (Zf (Z8 rfl (Z7 (Zf (Zj (Zbm (Zj (Zl (Zb (slv 0 0 n c) (Zb (Iv (i : Nat)) ?_))))))))))
  refine Zd0 (b := 0) (o := 0) (j := i * 110) (m := n) (c := c) (sz := 110) (i := (i : Nat)) (k := .i64) rfl rfl rfl rfl rfl (by omega) (by omega) (by omega) ?_
  refine Zbu (b := 0) (o := i * 110) (n := 1) (o' := i * 110 + 1) rfl rfl rfl rfl (by omega) ?_
  refine Zbu (b := 0) (o := i * 110 + 1) (n := 3) (o' := i * 110 + 4) rfl rfl rfl rfl (by omega) ?_
  refine Zcp (p := pt 0 (i * 110 + 4)) (v := .string (((l.getD i default).entry).text)) rfl rfl rfl (Zii Zk (l := l) (i := i) (k := 4) (m := 110) rfl rfl rfl rfl (by have := hn; omega) (by omega) (by kernel_rfl) rfl) ?_
  refine Zba (p := .string (((l.getD i default).entry).text)) (v := Iv ((((((l.getD i default).entry).text).size) : Nat) : Int)) ?_
  by_cases h3 : 1000 < ((((((l.getD i default).entry).text).size) : Nat) : Int)
  refine Zn (vx := Iv ((((((l.getD i default).entry).text).size) : Nat) : Int)) (vy := Iv 1000) rfl rfl (.bool true) rfl rfl (Zhz (by omega)) ?_
  refine Ze (Zf (Z8 rfl (Zj (Zl (Zc (.bool true) (Ze (Zf (Zq (Zag (Z4 (Zca (Zag (Z4 (Zp ?_))))))))))))))
  rw [show Zgk l = true from by unfold Zgk; first | (rw [decide_eq_true (by omega : 60 < l.length)]; rfl) | (rw [Zr0 hR (by omega) (decide_eq_true (by omega)), Bool.or_true])]
  exact Zm (v := .bool true) rfl rfl rfl (by kernel_rfl) rfl
  refine Zn (vx := Iv ((((((l.getD i default).entry).text).size) : Nat) : Int)) (vy := Iv 1000) rfl rfl (.bool false) rfl rfl (Zhy (by omega)) ?_
  refine Ze (Zf (Zw rfl (Z7 (Z1 (Zf (Zl (Zb (Iv (i : Nat)) ?_)))))))
  refine Zn (vx := Iv (i : Nat)) (vy := Iv 1) rfl rfl (Iv ((i : Nat) + 1)) rfl rfl (Zci (by omega) (by omega) (by omega)) ?_
  refine Zc (Iv ((i : Nat) + 1)) (Ze ?_)
  refine Zab ⟨(i + 1), ⟨Zui hR (by omega) (decide_eq_false (by omega)), by omega⟩, by show n - (i + 1) < n - i; omega, ?_⟩
  refine Zbz (n := 1) rfl ?_ (by kernel_rfl) (by kernel_rfl)
  repeat (first | exact trivial | refine ⟨.inl rfl, ?_⟩ | refine ⟨.inr ⟨rfl, rfl⟩, ?_⟩ | refine ⟨.inr ⟨congrArg (Value.int .i64) (by first | omega | (dsimp only; omega)), rfl⟩, ?_⟩)
  refine Zn (vx := Iv (i : Nat)) (vy := Iv (n : Nat)) rfl rfl (.bool false) rfl rfl (Zff (by omega)) ?_
  refine Ze (Zf (Zw rfl (Zhq (Zgh (Zeh (Zfw rfl (Zf (Zj (Zl (Zc (.bool false) (Ze (Zf (Zq (Zp ?_))))))))))))))
  rw [show Zgk l = false from by unfold Zgk; rw [decide_eq_false (by omega : ¬ 60 < l.length), Bool.false_or, ← hR, List.drop_of_length_le (by omega)]; rfl]
  exact Zm (v := .bool false) rfl rfl rfl (by kernel_rfl) rfl
theorem Zep (l m : List Item) (n c p d : Nat) (hn : l.length = n) (hm : m.length = p) (hc : n ≤ c) (hd : p ≤ d) (hb : n ≤ 1048576) (hb2 : p ≤ 1048576) : Zas Try.prog G 22 [slv 0 0 n c, slv 1 0 p d] [rwR Zk l, rwR Zk m] (.bool (Zcc l m)) [rwR Zk l, rwR Zk m] := by
  refine Zcv (fn := Try.f22) (nt := 26) rfl rfl rfl rfl ?_
  refine Zj (Zl (Zc (.bool false) (Ze (Zf (Zj (Zj (Zl (Zb (slv 0 0 n c) (Zba (p := slv 0 0 n c) (v := Iv (n : Nat)) (Zb (slv 1 0 p d) (Zba (p := slv 1 0 p d) (v := Iv (p : Nat)) ?_)))))))))))
  by_cases h1 : (n : Nat) ≠ (p : Nat)
  refine Zn (vx := Iv (n : Nat)) (vy := Iv (p : Nat)) rfl rfl (.bool true) rfl rfl (Zc3 (by omega)) ?_
  refine Ze (Zf (Z8 rfl (Zj (Zl (Zc (.bool false) (Ze (Zf (Zq (Z4 (Zp ?_))))))))))
  rw [show Zcc l m = false from by first | exact Znr (by omega) | exact Zs0 i (by omega) (by assumption)]
  exact Zm (v := .bool false) rfl rfl rfl (by kernel_rfl) rfl
  refine Zn (vx := Iv (n : Nat)) (vy := Iv (p : Nat)) rfl rfl (.bool false) rfl rfl (Zbk (by omega)) ?_
  refine Ze (Zf (Zw rfl (Z7 (Zf (Zj (Zj (Zl (Zc (Iv 0) (Ze (Zf (Zbm ?_)))))))))))
  refine Zf9 (fun i : Nat => [slv 0 0 n c, slv 1 0 p d, dead, dead, dead, Iv (i : Nat), slv 0 0 n c, Iv (n : Nat), slv 1 0 p d, Iv (p : Nat), .bool false]) (fun i : Nat => [rwR Zk l, rwR Zk m]) (fun i : Nat => (∀ j, j < i → Z5 (l.getD j default) (m.getD j default) = true) ∧ i ≤ n) (fun i : Nat => n - i) 0 ⟨fun _ h => absurd h (by omega), by omega⟩ ?_ ?_
  · refine Zbz (n := 2) rfl ?_ (by kernel_rfl) (by kernel_rfl)
    repeat (first | exact trivial | refine ⟨.inl rfl, ?_⟩ | refine ⟨.inr ⟨rfl, rfl⟩, ?_⟩ | refine ⟨.inr ⟨congrArg (Value.int .i64) (by first | omega | (dsimp only; omega)), rfl⟩, ?_⟩)
  rintro i ⟨hR, hi⟩
  refine Zbq 1 (H' := [rwR Zk l, rwR Zk m, hole]) rfl ?_
  refine Zj (Zj (Zl (Zb (Iv (i : Nat)) (Zb (slv 0 0 n c) (Zba (p := slv 0 0 n c) (v := Iv (n : Nat)) ?_)))))
  by_cases h2 : (i : Nat) < (n : Nat)
  refine Zn (vx := Iv (i : Nat)) (vy := Iv (n : Nat)) rfl rfl (.bool true) rfl rfl (Zfg (by omega)) ?_
  refine Ze (Zf (Z8 rfl (Z7 (Zf (Zj (Zbm (Zj ?_)))))))
  refine Zdx (by kernel_rfl) ?_
  refine Zb (slv 0 0 n c) (Zb (Iv (i : Nat)) ?_)
  refine Zd0 (b := 0) (o := 0) (j := i * 110) (m := n) (c := c) (sz := 110) (i := (i : Nat)) (k := .i64) rfl rfl rfl rfl rfl (by omega) (by omega) (by omega) ?_
  refine Zcp (p := pt 0 (i * 110)) (v := Zan (l.getD i default)) rfl rfl rfl (Zei (n := 0) (m := 110) Zk rfl rfl rfl rfl (by have := hn; omega) (by omega)) ?_
  refine Zb (slv 1 0 p d) (Zb (Iv (i : Nat)) ?_)
  refine Zd0 (b := 1) (o := 0) (j := i * 110) (m := p) (c := d) (sz := 110) (i := (i : Nat)) (k := .i64) rfl rfl rfl rfl rfl (by omega) (by omega) (by omega) ?_
  refine Zcp (p := pt 1 (i * 110)) (v := Zan (m.getD i default)) rfl rfl rfl (Zei (n := 0) (m := 110) Zk rfl rfl rfl rfl (by have := hm; omega) (by omega)) ?_
  rcases Bool.eq_false_or_eq_true (Z5 (l.getD i default) (m.getD i default)) with h3 | h3
  refine Zn (vx := Zan (l.getD i default)) (vy := Zan (m.getD i default)) rfl rfl (.bool false) rfl rfl (Eq.trans (Zpu (l.getD i default) (m.getD i default)) (by rw [h3] <;> rfl)) ?_
  refine Zbh (Zar [[], [], [0, 1], [0, 1, 2], [], [], [4, 5], [4, 5, 6], [0, 1, 2, 3, 4, 5, 6, 7]] (by kernel_rfl) (by kernel_rfl)) ?_
  refine Zf (Zw rfl (Z7 (Z1 (Zf (Zl (Zb (Iv (i : Nat)) ?_))))))
  refine Zn (vx := Iv (i : Nat)) (vy := Iv 1) rfl rfl (Iv ((i : Nat) + 1)) rfl rfl (Zci (by omega) (by omega) (by omega)) ?_
  refine Zc (Iv ((i : Nat) + 1)) (Ze ?_)
  refine Zab ⟨(i + 1), ⟨fun j hj => by rcases Nat.lt_or_ge j i with h | h; exact hR j h; obtain rfl : j = i := (by omega); assumption, by omega⟩, by show n - (i + 1) < n - i; omega, ?_⟩
  refine Zbz (n := 2) rfl ?_ (by kernel_rfl) (by kernel_rfl)
  repeat (first | exact trivial | refine ⟨.inl rfl, ?_⟩ | refine ⟨.inr ⟨rfl, rfl⟩, ?_⟩ | refine ⟨.inr ⟨congrArg (Value.int .i64) (by first | omega | (dsimp only; omega)), rfl⟩, ?_⟩)
  refine Zn (vx := Zan (l.getD i default)) (vy := Zan (m.getD i default)) rfl rfl (.bool true) rfl rfl (Eq.trans (Zpu (l.getD i default) (m.getD i default)) (by rw [h3] <;> rfl)) ?_
  refine Zbh (Zar [[], [], [0, 1], [0, 1, 2], [], [], [4, 5], [4, 5, 6], [0, 1, 2, 3, 4, 5, 6, 7]] (by kernel_rfl) (by kernel_rfl)) ?_
  refine Zf (Z8 rfl (Zj (Zl (Zc (.bool false) (Ze (Zf (Zq (Zag (Z4 (Zca (Zag (Z4 (Zp ?_)))))))))))))
  rw [show Zcc l m = false from by first | exact Znr (by omega) | exact Zs0 i (by omega) (by assumption)]
  exact Zm (v := .bool false) rfl rfl rfl (by kernel_rfl) rfl
  refine Zn (vx := Iv (i : Nat)) (vy := Iv (n : Nat)) rfl rfl (.bool false) rfl rfl (Zff (by omega)) ?_
  refine Ze (Zf (Zw rfl (Zhq (Zgh (Zeh (Zfw rfl (Zf (Zj (Zl (Zc (.bool true) (Ze (Zf (Zq (Zp ?_))))))))))))))
  rw [show Zcc l m = true from Zs1 (by omega) (fun j hj => hR j (by omega))]
  exact Zm (v := .bool true) rfl rfl rfl (by kernel_rfl) rfl
end Go.Flat
