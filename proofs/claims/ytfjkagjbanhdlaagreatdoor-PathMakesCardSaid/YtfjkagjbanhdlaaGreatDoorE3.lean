/- Walks. -/
import Derived.Test.YtfjkagjbanhdlaaGreatDoorE2
set_option linter.unusedVariables false
set_option linter.unusedSimpArgs false
set_option maxRecDepth 20000
namespace Go.Flat
open Go.Proofs
variable {G : Glob}
theorem Zqa (l : List Item) (i : Nat) (h : i < l.length) : l.drop i = l.getD i default :: l.drop (i + 1) := by
 rw [List.drop_eq_getElem_cons h, List.getD_eq_getElem?_getD, List.getElem?_eq_getElem h]; rfl
def Zhk : Int → List Item → Bool
  | _, [] => true
  | ep, x :: l => decide (Zcw x) && decide (ep ≤ x.epoch) && Zhk x.epoch l
def Zec (l : List Item) : Prop := l.length ≤ 2000 ∧ Zhk 0 l = true
instance (l : List Item) : Decidable (Zec l) := inferInstanceAs (Decidable (_ ∧ _))
def Zpw (l : List Item) : Int := if Zec l then 0 else 100
theorem Zrz {l : List Item} (h : Zpw l = 0) : Zec l := by
 unfold Zpw at h
 split at h
 ·assumption
 ·omega
theorem Z4m {l : List Item} (h : ¬ Zpw l = 0) : ¬ Zec l := fun q => h (if_pos q)
theorem Zrw {ep : Int} {l : List Item} {i : Nat} {R : Bool} (hR : Zhk ep (l.drop i) = R) (hi : i < l.length) (h1 : Zcw (l.getD i default)) (h2 : ep ≤ (l.getD i default).epoch) : Zhk (l.getD i default).epoch (l.drop (i + 1)) = R := by
 rw [Zqa l i hi, Zhk, decide_eq_true h1, decide_eq_true h2] at hR; simpa using hR
theorem Zl1 {ep : Int} {l : List Item} {i : Nat} {R : Bool} (hR : Zhk ep (l.drop i) = R) (hi : i < l.length) (h : ¬ (Zcw (l.getD i default) ∧ ep ≤ (l.getD i default).epoch)) : R = false := by
 rw [Zqa l i hi, Zhk] at hR
 rw [← hR]
 by_cases h1 : Zcw (l.getD i default)
 ·rw [decide_eq_false (fun q => h ⟨h1, q⟩ : ¬ ep ≤ (l.getD i default).epoch)]; simp
 ·rw [decide_eq_false h1]; simp
def Zsu (l : List Item) (i : Nat) : Int := if i = 0 then 0 else (l.getD (i - 1) default).epoch
theorem Zqc {l : List Item} {i : Nat} {R : Bool} (hR : Zhk (Zsu l i) (l.drop i) = R) (hi : i < l.length) (h1 : Zcw (l.getD i default)) (h2 : i = 0 ∨ (l.getD (i - 1) default).epoch ≤ (l.getD i default).epoch) : Zhk (Zsu l (i + 1)) (l.drop (i + 1)) = R := by
 have := Zrw hR hi h1 (by
  unfold Zsu
  split
  ·have := h1.1; omega
  ·rcases h2 with h2 | h2
   ·omega
   ·exact h2)
 exact this
theorem Zov {l : List Item} {i : Nat} {R : Bool} (hR : Zhk (Zsu l i) (l.drop i) = R) (hi : i < l.length) (h : ¬ Zcw (l.getD i default) ∨ (0 < i ∧ (l.getD i default).epoch < (l.getD (i - 1) default).epoch)) : R = false := by
 refine Zl1 hR hi (fun q => ?_)
 rcases h with h | h
 ·exact h q.1
 ·have := q.2
  unfold Zsu at this
  rw [if_neg (by omega)] at this
  omega
def Z7o (x : Item) : Bool := decide (1000 < x.entry.text.size)
def Zpu (l : List Item) : Bool := decide (60 < l.length) || l.any Z7o
theorem Z3s {l : List Item} {i : Nat} {p : Item → Bool} {R : Bool} (hR : (l.drop i).any p = R) (hi : i < l.length) (h : p (l.getD i default) = false) : (l.drop (i + 1)).any p = R := by
 rw [Zqa l i hi, List.any_cons, h, Bool.false_or] at hR; exact hR
theorem Z0j {l : List Item} {i : Nat} {p : Item → Bool} {R : Bool} (hR : (l.drop i).any p = R) (hi : i < l.length) (h : p (l.getD i default) = true) : R = true := by
 rw [Zqa l i hi, List.any_cons, h, Bool.true_or] at hR; exact hR.symm
def Zkm (l m : List Item) : Bool := decide (l.length = m.length) && (List.range l.length).all fun i => Zim (l.getD i default) (m.getD i default)
theorem Z0u {l m : List Item} (h : l.length = m.length) (hR : ∀ j, j < l.length → Zim (l.getD j default) (m.getD j default) = true) : Zkm l m = true := by
 unfold Zkm
 rw [decide_eq_true h, Bool.true_and, List.all_eq_true]
 intro j hj
 exact hR j (List.mem_range.1 hj)
theorem Zsp {l m : List Item} (h : l.length ≠ m.length) : Zkm l m = false := by
 unfold Zkm
 rw [decide_eq_false h, Bool.false_and]
theorem Z0x {l m : List Item} (i : Nat) (hi : i < l.length) (h : Zim (l.getD i default) (m.getD i default) = false) : Zkm l m = false := by
  cases hs : Zkm l m with
  | false => rfl
  | true =>
    unfold Zkm at hs
    rw [Bool.and_eq_true, List.all_eq_true] at hs
    have := hs.2 i (List.mem_range.2 hi)
    rw [h] at this; cases this
theorem Zyv (l : List Item) : Zkm l l = true := Z0u rfl fun j _ => Zk7 _
theorem Zg7 (n low high : Int) : Z6 Tryz.prog G 54 [Iv n, Iv low, Iv high] [] (.bool (Zcx n low high)) [] := by
 refine Za8 (fn := Tryz.f54) (nt := 15) rfl rfl rfl rfl ?_
 refine Zf (Zg (Zb (.bool false) (Za (Zc (Zf (Zg (Zd (Iv n) (Zd (Iv low) ?_))))))))
 by_cases h1 : low ≤ n
 refine Zl (vx := Iv n) (vy := Iv low) rfl rfl (.bool true) rfl rfl (Zgm (by omega)) ?_
 refine Zd (.bool true) (Zd (Iv n) (Zd (Iv high) ?_))
 by_cases h2 : n ≤ high
 refine Zl (vx := Iv n) (vy := Iv high) rfl rfl (.bool true) rfl rfl (Zo5 (by omega)) ?_
 refine Zi (.bool true) (Zb (.bool true) (Za (Zc (Zq (Zr ?_)))))
 rw [show Zcx n low high = true from Zbc (by omega) (by omega)]
 exact Zk (v := .bool true) rfl rfl rfl (by kernel_rfl) rfl
 refine Zl (vx := Iv n) (vy := Iv high) rfl rfl (.bool false) rfl rfl (Znp (by omega)) ?_
 refine Zi (.bool false) (Zb (.bool false) (Za (Zc (Zq (Zr ?_)))))
 rw [show Zcx n low high = false from Z8 (by omega)]
 exact Zk (v := .bool false) rfl rfl rfl (by kernel_rfl) rfl
 refine Zl (vx := Iv n) (vy := Iv low) rfl rfl (.bool false) rfl rfl (Zg1 (by omega)) ?_
 refine Zd (.bool false) (Ze (Ze (Ze (Zi (.bool false) (Zb (.bool false) (Za (Zc (Zq (Zr ?_)))))))))
 rw [show Zcx n low high = false from Z8 (by omega)]
 exact Zk (v := .bool false) rfl rfl rfl (by kernel_rfl) rfl
theorem Z2u (x : Item) : Z6 Tryz.prog G 85 [Za9 x] [] (.bool (decide (Zcw x))) [] := by
  refine Za8 (fn := Tryz.f85) (nt := 12) rfl rfl rfl rfl ?_
  refine Zaa 1 (H' := [hole]) rfl ?_
  refine Zf (Zg (Zbq (v := Za9 x) (b := bxB 110 (Zs x)) (nid := 0) (H' := [bxB 110 (Zs x)]) (Zb (.bool false) (Za (Zc (Zf (Zg (Zh (b := 0) (o := 0) (n := 0) (o' := 0) (Zp (p := pt 0 0) (v := Iv x.epoch) ?_)))))))))
  by_cases h1 : 1 ≤ x.epoch
  by_cases h2 : x.epoch ≤ 900000000
  refine Zo ((Zg7 (G := G) x.epoch 1 900000000).res (congrArg Value.bool (Zbc (by omega) (by omega)))) (vals := [Iv x.epoch, Iv 1, Iv 900000000]) (res' := .bool true) rfl rfl rfl rfl rfl rfl ?_
  refine Zd (.bool true) (Zh (b := 0) (o := 0) (n := 1) (o' := 1) (Zp (p := pt 0 1) (v := Zdf x.entry) ?_))
  refine Zo (Zpa (G := G) x.entry) (vals := [Zdf x.entry]) (res' := Iv (Zfq x.entry)) rfl rfl rfl rfl rfl rfl ?_
  by_cases h3 : (Zfq x.entry) = 0
  refine Zl (vx := Iv (Zfq x.entry)) (vy := Iv 0) rfl rfl (.bool true) rfl rfl (Zdn (by omega)) ?_
  refine Zi (.bool true) (Zb (.bool true) (Za (Zc (Zq (Zr ?_)))))
  rw [show decide (Zcw x) = true from decide_eq_true ⟨by omega, by omega, Zwh (by omega)⟩]
  exact Zk (v := .bool true) rfl rfl rfl (by kernel_rfl) rfl
  refine Zl (vx := Iv (Zfq x.entry)) (vy := Iv 0) rfl rfl (.bool false) rfl rfl (Zer (by omega)) ?_
  refine Zi (.bool false) (Zb (.bool false) (Za (Zc (Zq (Zr ?_)))))
  rw [show decide (Zcw x) = false from decide_eq_false (fun q => by first | (have := q.1; have := q.2.1; omega) | (exact Zk5 (by omega) q.2.2))]
  exact Zk (v := .bool false) rfl rfl rfl (by kernel_rfl) rfl
  refine Zo ((Zg7 (G := G) x.epoch 1 900000000).res (congrArg Value.bool (Z8 (by omega)))) (vals := [Iv x.epoch, Iv 1, Iv 900000000]) (res' := .bool false) rfl rfl rfl rfl rfl rfl ?_
  refine Zd (.bool false) (Ze (Ze (Ze (Ze (Zi (.bool false) (Zb (.bool false) (Za (Zc (Zq (Zr ?_))))))))))
  rw [show decide (Zcw x) = false from decide_eq_false (fun q => by first | (have := q.1; have := q.2.1; omega) | (exact Zk5 (by omega) q.2.2))]
  exact Zk (v := .bool false) rfl rfl rfl (by kernel_rfl) rfl
  refine Zo ((Zg7 (G := G) x.epoch 1 900000000).res (congrArg Value.bool (Z8 (by omega)))) (vals := [Iv x.epoch, Iv 1, Iv 900000000]) (res' := .bool false) rfl rfl rfl rfl rfl rfl ?_
  refine Zd (.bool false) (Ze (Ze (Ze (Ze (Zi (.bool false) (Zb (.bool false) (Za (Zc (Zq (Zr ?_))))))))))
  rw [show decide (Zcw x) = false from decide_eq_false (fun q => by first | (have := q.1; have := q.2.1; omega) | (exact Zk5 (by omega) q.2.2))]
  exact Zk (v := .bool false) rfl rfl rfl (by kernel_rfl) rfl
theorem Z2b (l : List Item) (n c : Nat) (hn : l.length = n) (hc : n ≤ c) (hb : n ≤ 1048576) : Z6 Tryz.prog G 53 [slv 0 0 n c] [rwR Zt l] (Iv (Zpw l)) [rwR Zt l] := by
  refine Za8 (fn := Tryz.f53) (nt := 27) rfl rfl rfl rfl ?_
  refine Zf (Zg (Zb (Iv 0) (Za (Zc (Zf (Zg (Zb (Iv 0) (Za (Zc (Zf (Zf (Zg (Zd (slv 0 0 n c) (Zcu (p := slv 0 0 n c) (v := Iv (n : Nat)) (Zd (Iv 0) (Za (Zc (Z1 ?_))))))))))))))))))
  refine Zbg (fun x : Nat × Int => match x with | (i, ep) => [slv 0 0 n c, dead, dead, Iv ep, dead, dead, slv 0 0 n c, Iv (n : Nat), Iv (i : Nat)]) (fun x : Nat × Int => match x with | (i, ep) => [rwR Zt l]) (fun x : Nat × Int => match x with | (i, ep) => Zhk ep (l.drop i) = Zhk 0 l ∧ i ≤ n) (fun x : Nat × Int => match x with | (i, ep) => n - i) (0, 0) ⟨rfl, by omega⟩ ?_ ?_
  · refine Z5 (n := 1) rfl ?_ (by kernel_rfl) (by kernel_rfl)
    repeat (first | exact trivial | refine ⟨.inl rfl, ?_⟩ | refine ⟨.inr ⟨rfl, rfl⟩, ?_⟩ | refine ⟨.inr ⟨congrArg (Value.int .i64) (by first | omega | (dsimp only; omega)), rfl⟩, ?_⟩)
  rintro ⟨i, ep⟩ ⟨hR, hi⟩
  dsimp only at *
  refine Zaa 2 (H' := [rwR Zt l, hole, hole]) rfl ?_
  refine Zf (Zg ?_)
  by_cases h1 : (i : Nat) < (n : Nat)
  refine Zl (vx := Iv (i : Nat)) (vy := Iv (n : Nat)) rfl rfl (.bool true) rfl rfl (Zcc (by omega)) ?_
  refine Za (Zc (Zf (Zx rfl (Z0 (Zc (Zf (Z1 (Zf (Zg ?_)))))))))
  refine Zbe (b := 0) (o := 0) (j := i * 110) (m := n) (c := c) (sz := 110) (i := (i : Nat)) (k := .i64) rfl rfl rfl rfl rfl (by omega) (by omega) (by omega) ?_
  refine Zad (p := pt 0 (i * 110)) (v := Za9 (l.getD i default)) rfl rfl rfl (Zhf (n := 0) (m := 110) Zt rfl rfl rfl rfl (by have := hn; omega) (by omega)) ?_
  refine Zam (b := bxB 110 (Zs (⟨0, (⟨0, 0, 0, ⟨#[]⟩, (⟨(⟨0, 0, 0, dz, 0⟩ : Head), 0, dz⟩ : Signed), (⟨0, 0, 0, 0, dz⟩ : Claim)⟩ : Entry)⟩ : Item))) (nid := 1) (H' := [rwR Zt l, bxB 110 (Zs (⟨0, (⟨0, 0, 0, ⟨#[]⟩, (⟨(⟨0, 0, 0, dz, 0⟩ : Head), 0, dz⟩ : Signed), (⟨0, 0, 0, 0, dz⟩ : Claim)⟩ : Entry)⟩ : Item)), hole]) (Z7 (p := pt 1 0) (v := Za9 (l.getD i default)) (b := 1) (blk := bxB 110 (Zs (l.getD i default))) (H' := [rwR Zt l, bxB 110 (Zs (l.getD i default)), hole]) (Za (Zc (Zf (Zf (Zg (Zp (p := pt 1 0) (v := Za9 (l.getD i default)) ?_)))))))
  refine Zo (Z2u (G := G) (l.getD i default)) (vals := [Za9 (l.getD i default)]) (res' := .bool (decide (Zcw (l.getD i default)))) rfl rfl rfl rfl rfl rfl ?_
  rcases Bool.eq_false_or_eq_true (decide (Zcw (l.getD i default))) with h2 | h2
  refine Zg5 (vx := .bool (decide (Zcw (l.getD i default)))) rfl rfl (.bool false) rfl (Eq.trans Zd1 (congrArg (fun b => some (Value.bool !b)) h2)) ?_
  refine Zd (.bool false) (Zh (b := 1) (o := 0) (n := 0) (o' := 0) (Zp (p := pt 1 0) (v := Iv ((l.getD i default).epoch)) (Zd (Iv ep) ?_)))
  by_cases h3 : ((l.getD i default).epoch) < ep
  refine Zl (vx := Iv ((l.getD i default).epoch)) (vy := Iv ep) rfl rfl (.bool true) rfl rfl (Zcc (by omega)) ?_
  refine Zi (.bool true) (Za (Zc (Zx rfl (Zf (Zg (Zb (Iv 100) (Za (Zc (Zq (Zz (Za4 (Zz (Zd6 (Za4 (Zz (Zr ?_))))))))))))))))
  rw [show Zpw l = 100 from if_neg (fun q => by have q1 := q.1; have q2 := q.2; first | omega | (rw [Zl1 hR (by omega) (fun r => by first | (have := r.2; omega) | exact absurd r.1 (of_decide_eq_false (by assumption)))] at q2; cases q2))]
  exact Zk (v := Iv 100) rfl rfl rfl (by kernel_rfl) rfl
  refine Zl (vx := Iv ((l.getD i default).epoch)) (vy := Iv ep) rfl rfl (.bool false) rfl rfl (Zb5 (by omega)) ?_
  refine Zi (.bool false) (Za (Zc (Zu rfl (Z0 (Zc (Zg (Zh (b := 1) (o := 0) (n := 0) (o' := 0) (Zp (p := pt 1 0) (v := Iv ((l.getD i default).epoch)) (Zb (Iv ((l.getD i default).epoch)) (Za (Z4 (Zc (Zg ?_)))))))))))))
  refine Zl (vx := Iv (i : Nat)) (vy := Iv 1) rfl rfl (Iv ((i : Nat) + 1)) rfl rfl (Za3 (by omega) (by omega) (by omega)) ?_
  refine Zd (Iv ((i : Nat) + 1)) (Za ?_)
  refine Zao ⟨((i + 1), ((l.getD i default).epoch)), ⟨Zrw hR (by omega) (of_decide_eq_true (by assumption)) (by omega), by omega⟩, by show n - (i + 1) < n - i; omega, ?_⟩
  refine Z5 (n := 1) rfl ?_ (by kernel_rfl) (by kernel_rfl)
  repeat (first | exact trivial | refine ⟨.inl rfl, ?_⟩ | refine ⟨.inr ⟨rfl, rfl⟩, ?_⟩ | refine ⟨.inr ⟨congrArg (Value.int .i64) (by first | omega | (dsimp only; omega)), rfl⟩, ?_⟩)
  refine Zg5 (vx := .bool (decide (Zcw (l.getD i default)))) rfl rfl (.bool true) rfl (Eq.trans Zd1 (congrArg (fun b => some (Value.bool !b)) h2)) ?_
  refine Zd (.bool true) (Ze (Ze (Ze (Ze (Zi (.bool true) (Za (Zc (Zx rfl (Zf (Zg (Zb (Iv 100) (Za (Zc (Zq (Zz (Za4 (Zz (Zd6 (Za4 (Zz (Zr ?_)))))))))))))))))))))
  rw [show Zpw l = 100 from if_neg (fun q => by have q1 := q.1; have q2 := q.2; first | omega | (rw [Zl1 hR (by omega) (fun r => by first | (have := r.2; omega) | exact absurd r.1 (of_decide_eq_false (by assumption)))] at q2; cases q2))]
  exact Zk (v := Iv 100) rfl rfl rfl (by kernel_rfl) rfl
  refine Zl (vx := Iv (i : Nat)) (vy := Iv (n : Nat)) rfl rfl (.bool false) rfl rfl (Zb5 (by omega)) ?_
  refine Za (Zc (Zf (Zu rfl (Zbb (Zaq (Zau (Zax rfl (Zc (Zf (Zf (Zg (Zd (slv 0 0 n c) (Zcu (p := slv 0 0 n c) (v := Iv (n : Nat)) ?_)))))))))))))
  by_cases h4 : 2000 < (n : Nat)
  refine Zl (vx := Iv (n : Nat)) (vy := Iv 2000) rfl rfl (.bool true) rfl rfl (Zes (by omega)) ?_
  refine Za (Zc (Zx rfl (Zf (Zg (Zb (Iv 100) (Za (Zc (Zq (Zz (Zr ?_))))))))))
  rw [show Zpw l = 100 from if_neg (fun q => by have q1 := q.1; have q2 := q.2; first | omega | (rw [Zl1 hR (by omega) (fun r => by first | (have := r.2; omega) | exact absurd r.1 (of_decide_eq_false (by assumption)))] at q2; cases q2))]
  exact Zk (v := Iv 100) rfl rfl rfl (by kernel_rfl) rfl
  refine Zl (vx := Iv (n : Nat)) (vy := Iv 2000) rfl rfl (.bool false) rfl rfl (Zeq (by omega)) ?_
  refine Za (Zc (Zu rfl (Z0 (Zc (Zf (Zg (Zb (Iv 0) (Za (Zc (Zq (Zr ?_)))))))))))
  rw [show Zpw l = 0 from if_pos ⟨by omega, by rw [← hR, List.drop_of_length_le (by omega)]; rfl⟩]
  exact Zk (v := Iv 0) rfl rfl rfl (by kernel_rfl) rfl
theorem Zuc (l : List Item) (n c : Nat) (hn : l.length = n) (hc : n ≤ c) (hb : n ≤ 1048576) : Z6 Tryz.prog G 66 [slv 0 0 n c] [rwR Zt l] (.bool (decide (Zec l))) [rwR Zt l] := by
  refine Za8 (fn := Tryz.f66) (nt := 37) rfl rfl rfl rfl ?_
  refine Zf (Zg (Zb (.bool false) (Za (Zc (Zf (Zf (Zg (Zd (slv 0 0 n c) (Zcu (p := slv 0 0 n c) (v := Iv (n : Nat)) ?_)))))))))
  by_cases h1 : 2000 < (n : Nat)
  refine Zl (vx := Iv (n : Nat)) (vy := Iv 2000) rfl rfl (.bool true) rfl rfl (Zes (by omega)) ?_
  refine Za (Zc (Zx rfl (Zf (Zg (Zb (.bool false) (Za (Zc (Zq (Zz (Zr ?_))))))))))
  rw [show decide (Zec l) = false from decide_eq_false (fun q => by have q1 := q.1; have q2 := q.2; first | omega | (rw [Zov hR (by omega) (by first | (exact .inl (of_decide_eq_false (by assumption))) | (exact .inr ⟨by omega, by omega⟩))] at q2; cases q2))]
  exact Zk (v := .bool false) rfl rfl rfl (by kernel_rfl) rfl
  refine Zl (vx := Iv (n : Nat)) (vy := Iv 2000) rfl rfl (.bool false) rfl rfl (Zeq (by omega)) ?_
  refine Za (Zc (Zu rfl (Z0 (Zc (Zf (Zf (Zg (Zb (Iv 0) (Za (Zc (Z1 ?_)))))))))))
  refine Zbg (fun i : Nat => [slv 0 0 n c, dead, dead, Iv (i : Nat), slv 0 0 n c, Iv (n : Nat), .bool false]) (fun i : Nat => [rwR Zt l]) (fun i : Nat => Zhk (Zsu l i) (l.drop i) = Zhk 0 l ∧ i ≤ n) (fun i : Nat => n - i) 0 ⟨rfl, by omega⟩ ?_ ?_
  · refine Z5 (n := 1) rfl ?_ (by kernel_rfl) (by kernel_rfl)
    repeat (first | exact trivial | refine ⟨.inl rfl, ?_⟩ | refine ⟨.inr ⟨rfl, rfl⟩, ?_⟩ | refine ⟨.inr ⟨congrArg (Value.int .i64) (by first | omega | (dsimp only; omega)), rfl⟩, ?_⟩)
  rintro i ⟨hR, hi⟩
  refine Zaa 1 (H' := [rwR Zt l, hole]) rfl ?_
  refine Zf (Zf (Zg (Zd (Iv (i : Nat)) (Zd (slv 0 0 n c) (Zcu (p := slv 0 0 n c) (v := Iv (n : Nat)) ?_)))))
  by_cases h2 : (i : Nat) < (n : Nat)
  refine Zl (vx := Iv (i : Nat)) (vy := Iv (n : Nat)) rfl rfl (.bool true) rfl rfl (Zcc (by omega)) ?_
  refine Za (Zc (Zx rfl (Z0 (Zc (Zf (Z1 (Zf ?_)))))))
  refine Zgc (by kernel_rfl) ?_
  refine Zd (slv 0 0 n c) (Zd (Iv (i : Nat)) ?_)
  refine Zbe (b := 0) (o := 0) (j := i * 110) (m := n) (c := c) (sz := 110) (i := (i : Nat)) (k := .i64) rfl rfl rfl rfl rfl (by omega) (by omega) (by omega) ?_
  refine Zad (p := pt 0 (i * 110)) (v := Za9 (l.getD i default)) rfl rfl rfl (Zhf (n := 0) (m := 110) Zt rfl rfl rfl rfl (by have := hn; omega) (by omega)) ?_
  refine Zo (Zto (G := G) (l.getD i default)) (vals := [Za9 (l.getD i default)]) (res' := .bool (decide (Zcw (l.getD i default)))) rfl rfl rfl rfl rfl rfl ?_
  rcases Bool.eq_false_or_eq_true (decide (Zcw (l.getD i default))) with h3 | h3
  refine Zg5 (vx := .bool (decide (Zcw (l.getD i default)))) rfl rfl (.bool false) rfl (Eq.trans Zd1 (congrArg (fun b => some (Value.bool !b)) h3)) ?_
  refine Zd (.bool false) (Zd (Iv (i : Nat)) ?_)
  by_cases h4 : 0 < (i : Nat)
  refine Zl (vx := Iv (i : Nat)) (vy := Iv 0) rfl rfl (.bool true) rfl rfl (Zes (by omega)) ?_
  refine Zd (.bool true) (Zd (slv 0 0 n c) (Zd (Iv (i : Nat)) ?_))
  refine Zl (vx := Iv (i : Nat)) (vy := Iv 1) rfl rfl (Iv ((i : Nat) - 1)) rfl rfl (Zc4 (by omega) (by omega) (by omega)) ?_
  refine Zbe (b := 0) (o := 0) (j := (i - 1) * 110) (m := n) (c := c) (sz := 110) (i := (i : Nat) - 1) (k := .i64) rfl rfl rfl rfl rfl (by omega) (by omega) (by omega) ?_
  refine Za2 (b := 0) (o := (i - 1) * 110) (n := 0) (o' := (i - 1) * 110) rfl rfl rfl rfl (by omega) ?_
  refine Zad (p := pt 0 ((i - 1) * 110)) (v := Iv ((l.getD (i - 1) default).epoch)) rfl rfl rfl (Zfx Zt (l := l) (i := i - 1) (k := 0) (m := 110) rfl rfl rfl rfl (by have := hn; omega) (by omega) (by kernel_rfl) rfl) ?_
  refine Zd (slv 0 0 n c) (Zd (Iv (i : Nat)) ?_)
  refine Zbe (b := 0) (o := 0) (j := i * 110) (m := n) (c := c) (sz := 110) (i := (i : Nat)) (k := .i64) rfl rfl rfl rfl rfl (by omega) (by omega) (by omega) ?_
  refine Za2 (b := 0) (o := i * 110) (n := 0) (o' := i * 110) rfl rfl rfl rfl (by omega) ?_
  refine Zad (p := pt 0 (i * 110)) (v := Iv ((l.getD i default).epoch)) rfl rfl rfl (Zfx Zt (l := l) (i := i) (k := 0) (m := 110) rfl rfl rfl rfl (by have := hn; omega) (by omega) (by kernel_rfl) rfl) ?_
  by_cases h5 : ((l.getD i default).epoch) < ((l.getD (i - 1) default).epoch)
  refine Zl (vx := Iv ((l.getD (i - 1) default).epoch)) (vy := Iv ((l.getD i default).epoch)) rfl rfl (.bool true) rfl rfl (Zes (by omega)) ?_
  refine Zi (.bool true) (Zi (.bool true) ?_)
  refine Zeu (Zfs [[], [], [0, 1], [0, 1, 2], [0, 1, 2, 3], [0, 1, 2, 3, 4], [0, 1, 2, 3, 4, 5], [0, 1, 2, 3, 4, 5, 6], [0, 1, 2, 3, 4, 5, 6, 7], [0, 1, 2, 3, 4, 5, 6, 7, 8], [0, 1, 2, 3, 4, 5, 6, 7, 8, 9], [0, 1, 2, 3, 4, 5, 6, 7, 8, 9], [0, 1, 2, 3, 4, 5, 6, 7, 8, 9, 11], [0, 1, 2, 3, 4, 5, 6, 7, 8, 9, 10, 11, 12], [0, 1, 2, 3, 4, 5, 6, 7, 8, 9, 10, 11, 12, 13], [0, 1, 2, 3, 4, 5, 6, 7, 8, 9, 10, 11, 12, 13, 14], [0, 1, 2, 3, 4, 5, 6, 7, 8, 9], [0, 1, 2, 3, 4, 5, 6, 7, 8, 9], [0, 1, 2, 3, 4, 5, 6, 7, 8, 9, 16, 17], [0, 1, 2, 3, 4, 5, 6, 7, 8, 9, 16, 17, 18], [0, 1, 2, 3, 4, 5, 6, 7, 8, 9, 16, 17, 18, 19], [0, 1, 2, 3, 4, 5, 6, 7, 8, 9, 10, 11, 12, 13, 14, 15, 16, 17, 18, 19, 20], [0, 1, 2, 3, 4, 5, 6, 7, 8, 9, 10, 11, 12, 13, 14, 15, 16, 17, 18, 19, 20, 21], [0, 1, 2, 3, 4, 5, 6, 7, 8, 9, 10, 11, 12, 13, 14, 15, 16, 17, 18, 19, 20, 21, 22]] (by kernel_rfl) (by kernel_rfl)) ?_
  refine Zc (Zx rfl (Zf (Zg (Zb (.bool false) (Za (Zc (Zq (Za4 (Zz (Zd6 (Za4 (Zz (Zr ?_)))))))))))))
  rw [show decide (Zec l) = false from decide_eq_false (fun q => by have q1 := q.1; have q2 := q.2; first | omega | (rw [Zov hR (by omega) (by first | (exact .inl (of_decide_eq_false (by assumption))) | (exact .inr ⟨by omega, by omega⟩))] at q2; cases q2))]
  exact Zk (v := .bool false) rfl rfl rfl (by kernel_rfl) rfl
  refine Zl (vx := Iv ((l.getD (i - 1) default).epoch)) (vy := Iv ((l.getD i default).epoch)) rfl rfl (.bool false) rfl rfl (Zeq (by omega)) ?_
  refine Zi (.bool false) (Zi (.bool false) ?_)
  refine Zeu (Zfs [[], [], [0, 1], [0, 1, 2], [0, 1, 2, 3], [0, 1, 2, 3, 4], [0, 1, 2, 3, 4, 5], [0, 1, 2, 3, 4, 5, 6], [0, 1, 2, 3, 4, 5, 6, 7], [0, 1, 2, 3, 4, 5, 6, 7, 8], [0, 1, 2, 3, 4, 5, 6, 7, 8, 9], [0, 1, 2, 3, 4, 5, 6, 7, 8, 9], [0, 1, 2, 3, 4, 5, 6, 7, 8, 9, 11], [0, 1, 2, 3, 4, 5, 6, 7, 8, 9, 10, 11, 12], [0, 1, 2, 3, 4, 5, 6, 7, 8, 9, 10, 11, 12, 13], [0, 1, 2, 3, 4, 5, 6, 7, 8, 9, 10, 11, 12, 13, 14], [0, 1, 2, 3, 4, 5, 6, 7, 8, 9], [0, 1, 2, 3, 4, 5, 6, 7, 8, 9], [0, 1, 2, 3, 4, 5, 6, 7, 8, 9, 16, 17], [0, 1, 2, 3, 4, 5, 6, 7, 8, 9, 16, 17, 18], [0, 1, 2, 3, 4, 5, 6, 7, 8, 9, 16, 17, 18, 19], [0, 1, 2, 3, 4, 5, 6, 7, 8, 9, 10, 11, 12, 13, 14, 15, 16, 17, 18, 19, 20], [0, 1, 2, 3, 4, 5, 6, 7, 8, 9, 10, 11, 12, 13, 14, 15, 16, 17, 18, 19, 20, 21], [0, 1, 2, 3, 4, 5, 6, 7, 8, 9, 10, 11, 12, 13, 14, 15, 16, 17, 18, 19, 20, 21, 22]] (by kernel_rfl) (by kernel_rfl)) ?_
  refine Zc (Zu rfl (Z0 (Z4 (Zc (Zg (Zd (Iv (i : Nat)) ?_))))))
  refine Zl (vx := Iv (i : Nat)) (vy := Iv 1) rfl rfl (Iv ((i : Nat) + 1)) rfl rfl (Za3 (by omega) (by omega) (by omega)) ?_
  refine Zb (Iv ((i : Nat) + 1)) (Za ?_)
  refine Zao ⟨(i + 1), ⟨Zqc hR (by omega) (of_decide_eq_true (by assumption)) (by first | (left; omega) | (right; omega)), by omega⟩, by show n - (i + 1) < n - i; omega, ?_⟩
  refine Z5 (n := 1) rfl ?_ (by kernel_rfl) (by kernel_rfl)
  repeat (first | exact trivial | refine ⟨.inl rfl, ?_⟩ | refine ⟨.inr ⟨rfl, rfl⟩, ?_⟩ | refine ⟨.inr ⟨congrArg (Value.int .i64) (by first | omega | (dsimp only; omega)), rfl⟩, ?_⟩)
  refine Zl (vx := Iv (i : Nat)) (vy := Iv 0) rfl rfl (.bool false) rfl rfl (Zeq (by omega)) ?_
  refine Zd (.bool false) (Ze (Ze (Ze (Ze (Ze (Ze (Ze (Ze (Ze (Ze (Ze (Ze (Zi (.bool false) (Zi (.bool false) ?_))))))))))))))
  refine Zeu (Zfs [[], [], [0, 1], [0, 1, 2], [0, 1, 2, 3], [0, 1, 2, 3, 4], [0, 1, 2, 3, 4, 5], [0, 1, 2, 3, 4, 5, 6], [0, 1, 2, 3, 4, 5, 6, 7], [0, 1, 2, 3, 4, 5, 6, 7, 8], [0, 1, 2, 3, 4, 5, 6, 7, 8, 9], [0, 1, 2, 3, 4, 5, 6, 7, 8, 9], [0, 1, 2, 3, 4, 5, 6, 7, 8, 9, 11], [0, 1, 2, 3, 4, 5, 6, 7, 8, 9, 10, 11, 12], [0, 1, 2, 3, 4, 5, 6, 7, 8, 9, 10, 11, 12, 13], [0, 1, 2, 3, 4, 5, 6, 7, 8, 9, 10, 11, 12, 13, 14], [0, 1, 2, 3, 4, 5, 6, 7, 8, 9], [0, 1, 2, 3, 4, 5, 6, 7, 8, 9], [0, 1, 2, 3, 4, 5, 6, 7, 8, 9, 16, 17], [0, 1, 2, 3, 4, 5, 6, 7, 8, 9, 16, 17, 18], [0, 1, 2, 3, 4, 5, 6, 7, 8, 9, 16, 17, 18, 19], [0, 1, 2, 3, 4, 5, 6, 7, 8, 9, 10, 11, 12, 13, 14, 15, 16, 17, 18, 19, 20], [0, 1, 2, 3, 4, 5, 6, 7, 8, 9, 10, 11, 12, 13, 14, 15, 16, 17, 18, 19, 20, 21], [0, 1, 2, 3, 4, 5, 6, 7, 8, 9, 10, 11, 12, 13, 14, 15, 16, 17, 18, 19, 20, 21, 22]] (by kernel_rfl) (by kernel_rfl)) ?_
  refine Zc (Zu rfl (Z0 (Z4 (Zc (Zg (Zd (Iv (i : Nat)) ?_))))))
  refine Zl (vx := Iv (i : Nat)) (vy := Iv 1) rfl rfl (Iv ((i : Nat) + 1)) rfl rfl (Za3 (by omega) (by omega) (by omega)) ?_
  refine Zb (Iv ((i : Nat) + 1)) (Za ?_)
  refine Zao ⟨(i + 1), ⟨Zqc hR (by omega) (of_decide_eq_true (by assumption)) (by first | (left; omega) | (right; omega)), by omega⟩, by show n - (i + 1) < n - i; omega, ?_⟩
  refine Z5 (n := 1) rfl ?_ (by kernel_rfl) (by kernel_rfl)
  repeat (first | exact trivial | refine ⟨.inl rfl, ?_⟩ | refine ⟨.inr ⟨rfl, rfl⟩, ?_⟩ | refine ⟨.inr ⟨congrArg (Value.int .i64) (by first | omega | (dsimp only; omega)), rfl⟩, ?_⟩)
  refine Zg5 (vx := .bool (decide (Zcw (l.getD i default)))) rfl rfl (.bool true) rfl (Eq.trans Zd1 (congrArg (fun b => some (Value.bool !b)) h3)) ?_
  refine Zd (.bool true) (Ze (Ze (Ze (Ze (Ze (Ze (Ze (Ze (Ze (Ze (Ze (Ze (Ze (Ze (Ze (Ze (Zi (.bool true) ?_)))))))))))))))))
  refine Zeu (Zfs [[], [], [0, 1], [0, 1, 2], [0, 1, 2, 3], [0, 1, 2, 3, 4], [0, 1, 2, 3, 4, 5], [0, 1, 2, 3, 4, 5, 6], [0, 1, 2, 3, 4, 5, 6, 7], [0, 1, 2, 3, 4, 5, 6, 7, 8], [0, 1, 2, 3, 4, 5, 6, 7, 8, 9], [0, 1, 2, 3, 4, 5, 6, 7, 8, 9], [0, 1, 2, 3, 4, 5, 6, 7, 8, 9, 11], [0, 1, 2, 3, 4, 5, 6, 7, 8, 9, 10, 11, 12], [0, 1, 2, 3, 4, 5, 6, 7, 8, 9, 10, 11, 12, 13], [0, 1, 2, 3, 4, 5, 6, 7, 8, 9, 10, 11, 12, 13, 14], [0, 1, 2, 3, 4, 5, 6, 7, 8, 9], [0, 1, 2, 3, 4, 5, 6, 7, 8, 9], [0, 1, 2, 3, 4, 5, 6, 7, 8, 9, 16, 17], [0, 1, 2, 3, 4, 5, 6, 7, 8, 9, 16, 17, 18], [0, 1, 2, 3, 4, 5, 6, 7, 8, 9, 16, 17, 18, 19], [0, 1, 2, 3, 4, 5, 6, 7, 8, 9, 10, 11, 12, 13, 14, 15, 16, 17, 18, 19, 20], [0, 1, 2, 3, 4, 5, 6, 7, 8, 9, 10, 11, 12, 13, 14, 15, 16, 17, 18, 19, 20, 21], [0, 1, 2, 3, 4, 5, 6, 7, 8, 9, 10, 11, 12, 13, 14, 15, 16, 17, 18, 19, 20, 21, 22]] (by kernel_rfl) (by kernel_rfl)) ?_
  refine Zc (Zx rfl (Zf (Zg (Zb (.bool false) (Za (Zc (Zq (Za4 (Zz (Zd6 (Za4 (Zz (Zr ?_)))))))))))))
  rw [show decide (Zec l) = false from decide_eq_false (fun q => by have q1 := q.1; have q2 := q.2; first | omega | (rw [Zov hR (by omega) (by first | (exact .inl (of_decide_eq_false (by assumption))) | (exact .inr ⟨by omega, by omega⟩))] at q2; cases q2))]
  exact Zk (v := .bool false) rfl rfl rfl (by kernel_rfl) rfl
  refine Zl (vx := Iv (i : Nat)) (vy := Iv (n : Nat)) rfl rfl (.bool false) rfl rfl (Zb5 (by omega)) ?_
  refine Za (Zc (Zu rfl (Zbb (Zaq (Zau (Zax rfl (Zc (Zf (Zg (Zb (.bool true) (Za (Zc (Zq (Zr ?_))))))))))))))
  rw [show decide (Zec l) = true from decide_eq_true ⟨by omega, by rw [← hR, List.drop_of_length_le (by omega)]; rfl⟩]
  exact Zk (v := .bool true) rfl rfl rfl (by kernel_rfl) rfl
theorem Z2j (l : List Item) (n c : Nat) (hn : l.length = n) (hc : n ≤ c) (hb : n ≤ 9223372036854775807) : Z6 Tryz.prog G 5 [slv 0 0 n c] [rwR Zt l] (.bool (Zpu l)) [rwR Zt l] := by
  refine Za8 (fn := Tryz.f5) (nt := 21) rfl rfl rfl rfl ?_
  refine Zf (Zg (Zb (.bool false) (Za (Zc (Zf (Zf (Zg (Zd (slv 0 0 n c) (Zcu (p := slv 0 0 n c) (v := Iv (n : Nat)) ?_)))))))))
  by_cases h1 : 60 < (n : Nat)
  refine Zl (vx := Iv (n : Nat)) (vy := Iv 60) rfl rfl (.bool true) rfl rfl (Zes (by omega)) ?_
  refine Za (Zc (Zx rfl (Zf (Zg (Zb (.bool true) (Za (Zc (Zq (Zz (Zr ?_))))))))))
  rw [show Zpu l = true from by unfold Zpu; first | (rw [decide_eq_true (by omega : 60 < l.length)]; rfl) | (rw [Z0j hR (by omega) (decide_eq_true (by omega)), Bool.or_true])]
  exact Zk (v := .bool true) rfl rfl rfl (by kernel_rfl) rfl
  refine Zl (vx := Iv (n : Nat)) (vy := Iv 60) rfl rfl (.bool false) rfl rfl (Zeq (by omega)) ?_
  refine Za (Zc (Zu rfl (Z0 (Zc (Zf (Zf (Zg (Zb (Iv 0) (Za (Zc (Z1 ?_)))))))))))
  refine Zbg (fun i : Nat => [slv 0 0 n c, dead, dead, Iv (i : Nat), slv 0 0 n c, Iv (n : Nat), .bool false]) (fun i : Nat => [rwR Zt l]) (fun i : Nat => (l.drop i).any Z7o = l.any Z7o ∧ i ≤ n) (fun i : Nat => n - i) 0 ⟨rfl, by omega⟩ ?_ ?_
  · refine Z5 (n := 1) rfl ?_ (by kernel_rfl) (by kernel_rfl)
    repeat (first | exact trivial | refine ⟨.inl rfl, ?_⟩ | refine ⟨.inr ⟨rfl, rfl⟩, ?_⟩ | refine ⟨.inr ⟨congrArg (Value.int .i64) (by first | omega | (dsimp only; omega)), rfl⟩, ?_⟩)
  rintro i ⟨hR, hi⟩
  refine Zaa 1 (H' := [rwR Zt l, hole]) rfl ?_
  refine Zf (Zf (Zg (Zd (Iv (i : Nat)) (Zd (slv 0 0 n c) (Zcu (p := slv 0 0 n c) (v := Iv (n : Nat)) ?_)))))
  by_cases h2 : (i : Nat) < (n : Nat)
  refine Zl (vx := Iv (i : Nat)) (vy := Iv (n : Nat)) rfl rfl (.bool true) rfl rfl (Zcc (by omega)) ?_
  refine Za (Zc (Zx rfl (Z0 (Zc (Zf (Z1 (Zf (Zg (Zd (slv 0 0 n c) (Zd (Iv (i : Nat)) ?_))))))))))
  refine Zbe (b := 0) (o := 0) (j := i * 110) (m := n) (c := c) (sz := 110) (i := (i : Nat)) (k := .i64) rfl rfl rfl rfl rfl (by omega) (by omega) (by omega) ?_
  refine Za2 (b := 0) (o := i * 110) (n := 1) (o' := i * 110 + 1) rfl rfl rfl rfl (by omega) ?_
  refine Za2 (b := 0) (o := i * 110 + 1) (n := 3) (o' := i * 110 + 4) rfl rfl rfl rfl (by omega) ?_
  refine Zad (p := pt 0 (i * 110 + 4)) (v := .string (((l.getD i default).entry).text)) rfl rfl rfl (Zfx Zt (l := l) (i := i) (k := 4) (m := 110) rfl rfl rfl rfl (by have := hn; omega) (by omega) (by kernel_rfl) rfl) ?_
  refine Zcu (p := .string (((l.getD i default).entry).text)) (v := Iv ((((((l.getD i default).entry).text).size) : Nat) : Int)) ?_
  by_cases h3 : 1000 < ((((((l.getD i default).entry).text).size) : Nat) : Int)
  refine Zl (vx := Iv ((((((l.getD i default).entry).text).size) : Nat) : Int)) (vy := Iv 1000) rfl rfl (.bool true) rfl rfl (Zes (by omega)) ?_
  refine Za (Zc (Zx rfl (Zf (Zg (Zb (.bool true) (Za (Zc (Zq (Za4 (Zz (Zd6 (Za4 (Zz (Zr ?_))))))))))))))
  rw [show Zpu l = true from by unfold Zpu; first | (rw [decide_eq_true (by omega : 60 < l.length)]; rfl) | (rw [Z0j hR (by omega) (decide_eq_true (by omega)), Bool.or_true])]
  exact Zk (v := .bool true) rfl rfl rfl (by kernel_rfl) rfl
  refine Zl (vx := Iv ((((((l.getD i default).entry).text).size) : Nat) : Int)) (vy := Iv 1000) rfl rfl (.bool false) rfl rfl (Zeq (by omega)) ?_
  refine Za (Zc (Zu rfl (Z0 (Z4 (Zc (Zg (Zd (Iv (i : Nat)) ?_)))))))
  refine Zl (vx := Iv (i : Nat)) (vy := Iv 1) rfl rfl (Iv ((i : Nat) + 1)) rfl rfl (Za3 (by omega) (by omega) (by omega)) ?_
  refine Zb (Iv ((i : Nat) + 1)) (Za ?_)
  refine Zao ⟨(i + 1), ⟨Z3s hR (by omega) (decide_eq_false (by omega)), by omega⟩, by show n - (i + 1) < n - i; omega, ?_⟩
  refine Z5 (n := 1) rfl ?_ (by kernel_rfl) (by kernel_rfl)
  repeat (first | exact trivial | refine ⟨.inl rfl, ?_⟩ | refine ⟨.inr ⟨rfl, rfl⟩, ?_⟩ | refine ⟨.inr ⟨congrArg (Value.int .i64) (by first | omega | (dsimp only; omega)), rfl⟩, ?_⟩)
  refine Zl (vx := Iv (i : Nat)) (vy := Iv (n : Nat)) rfl rfl (.bool false) rfl rfl (Zb5 (by omega)) ?_
  refine Za (Zc (Zu rfl (Zbb (Zaq (Zau (Zax rfl (Zc (Zf (Zg (Zb (.bool false) (Za (Zc (Zq (Zr ?_))))))))))))))
  rw [show Zpu l = false from by unfold Zpu; rw [decide_eq_false (by omega : ¬ 60 < l.length), Bool.false_or, ← hR, List.drop_of_length_le (by omega)]; rfl]
  exact Zk (v := .bool false) rfl rfl rfl (by kernel_rfl) rfl
theorem Zyb (l m : List Item) (n c p d : Nat) (hn : l.length = n) (hm : m.length = p) (hc : n ≤ c) (hd : p ≤ d) (hb : n ≤ 1048576) (hb2 : p ≤ 1048576) : Z6 Tryz.prog G 11 [slv 0 0 n c, slv 1 0 p d] [rwR Zt l, rwR Zt m] (.bool (Zkm l m)) [rwR Zt l, rwR Zt m] := by
  refine Za8 (fn := Tryz.f11) (nt := 26) rfl rfl rfl rfl ?_
  refine Zf (Zg (Zb (.bool false) (Za (Zc (Zf (Zf (Zg (Zd (slv 0 0 n c) (Zcu (p := slv 0 0 n c) (v := Iv (n : Nat)) (Zd (slv 1 0 p d) (Zcu (p := slv 1 0 p d) (v := Iv (p : Nat)) ?_)))))))))))
  by_cases h1 : (n : Nat) ≠ (p : Nat)
  refine Zl (vx := Iv (n : Nat)) (vy := Iv (p : Nat)) rfl rfl (.bool true) rfl rfl (Zea (by omega)) ?_
  refine Za (Zc (Zx rfl (Zf (Zg (Zb (.bool false) (Za (Zc (Zq (Zz (Zr ?_))))))))))
  rw [show Zkm l m = false from by first | exact Zsp (by omega) | exact Z0x i (by omega) (by assumption)]
  exact Zk (v := .bool false) rfl rfl rfl (by kernel_rfl) rfl
  refine Zl (vx := Iv (n : Nat)) (vy := Iv (p : Nat)) rfl rfl (.bool false) rfl rfl (Zdz (by omega)) ?_
  refine Za (Zc (Zu rfl (Z0 (Zc (Zf (Zf (Zg (Zb (Iv 0) (Za (Zc (Z1 ?_)))))))))))
  refine Zbg (fun i : Nat => [slv 0 0 n c, slv 1 0 p d, dead, dead, dead, Iv (i : Nat), slv 0 0 n c, Iv (n : Nat), slv 1 0 p d, Iv (p : Nat), .bool false]) (fun i : Nat => [rwR Zt l, rwR Zt m]) (fun i : Nat => (∀ j, j < i → Zim (l.getD j default) (m.getD j default) = true) ∧ i ≤ n) (fun i : Nat => n - i) 0 ⟨fun _ h => absurd h (by omega), by omega⟩ ?_ ?_
  · refine Z5 (n := 2) rfl ?_ (by kernel_rfl) (by kernel_rfl)
    repeat (first | exact trivial | refine ⟨.inl rfl, ?_⟩ | refine ⟨.inr ⟨rfl, rfl⟩, ?_⟩ | refine ⟨.inr ⟨congrArg (Value.int .i64) (by first | omega | (dsimp only; omega)), rfl⟩, ?_⟩)
  rintro i ⟨hR, hi⟩
  refine Zaa 1 (H' := [rwR Zt l, rwR Zt m, hole]) rfl ?_
  refine Zf (Zf (Zg (Zd (Iv (i : Nat)) (Zd (slv 0 0 n c) (Zcu (p := slv 0 0 n c) (v := Iv (n : Nat)) ?_)))))
  by_cases h2 : (i : Nat) < (n : Nat)
  refine Zl (vx := Iv (i : Nat)) (vy := Iv (n : Nat)) rfl rfl (.bool true) rfl rfl (Zcc (by omega)) ?_
  refine Za (Zc (Zx rfl (Z0 (Zc (Zf (Z1 (Zf ?_)))))))
  refine Zc1 (by kernel_rfl) ?_
  refine Zd (slv 0 0 n c) (Zd (Iv (i : Nat)) ?_)
  refine Zbe (b := 0) (o := 0) (j := i * 110) (m := n) (c := c) (sz := 110) (i := (i : Nat)) (k := .i64) rfl rfl rfl rfl rfl (by omega) (by omega) (by omega) ?_
  refine Zad (p := pt 0 (i * 110)) (v := Za9 (l.getD i default)) rfl rfl rfl (Zhf (n := 0) (m := 110) Zt rfl rfl rfl rfl (by have := hn; omega) (by omega)) ?_
  refine Zd (slv 1 0 p d) (Zd (Iv (i : Nat)) ?_)
  refine Zbe (b := 1) (o := 0) (j := i * 110) (m := p) (c := d) (sz := 110) (i := (i : Nat)) (k := .i64) rfl rfl rfl rfl rfl (by omega) (by omega) (by omega) ?_
  refine Zad (p := pt 1 (i * 110)) (v := Za9 (m.getD i default)) rfl rfl rfl (Zhf (n := 0) (m := 110) Zt rfl rfl rfl rfl (by have := hm; omega) (by omega)) ?_
  rcases Bool.eq_false_or_eq_true (Zim (l.getD i default) (m.getD i default)) with h3 | h3
  refine Zl (vx := Za9 (l.getD i default)) (vy := Za9 (m.getD i default)) rfl rfl (.bool false) rfl rfl (Eq.trans (Zww (l.getD i default) (m.getD i default)) (by rw [h3] <;> rfl)) ?_
  refine Zb3 (Zgj [[], [], [0, 1], [0, 1, 2], [], [], [4, 5], [4, 5, 6], [0, 1, 2, 3, 4, 5, 6, 7]] (by kernel_rfl) (by kernel_rfl)) ?_
  refine Zc (Zu rfl (Z0 (Z4 (Zc (Zg (Zd (Iv (i : Nat)) ?_))))))
  refine Zl (vx := Iv (i : Nat)) (vy := Iv 1) rfl rfl (Iv ((i : Nat) + 1)) rfl rfl (Za3 (by omega) (by omega) (by omega)) ?_
  refine Zb (Iv ((i : Nat) + 1)) (Za ?_)
  refine Zao ⟨(i + 1), ⟨fun j hj => by rcases Nat.lt_or_ge j i with h | h; exact hR j h; obtain rfl : j = i := (by omega); assumption, by omega⟩, by show n - (i + 1) < n - i; omega, ?_⟩
  refine Z5 (n := 2) rfl ?_ (by kernel_rfl) (by kernel_rfl)
  repeat (first | exact trivial | refine ⟨.inl rfl, ?_⟩ | refine ⟨.inr ⟨rfl, rfl⟩, ?_⟩ | refine ⟨.inr ⟨congrArg (Value.int .i64) (by first | omega | (dsimp only; omega)), rfl⟩, ?_⟩)
  refine Zl (vx := Za9 (l.getD i default)) (vy := Za9 (m.getD i default)) rfl rfl (.bool true) rfl rfl (Eq.trans (Zww (l.getD i default) (m.getD i default)) (by rw [h3] <;> rfl)) ?_
  refine Zb3 (Zgj [[], [], [0, 1], [0, 1, 2], [], [], [4, 5], [4, 5, 6], [0, 1, 2, 3, 4, 5, 6, 7]] (by kernel_rfl) (by kernel_rfl)) ?_
  refine Zc (Zx rfl (Zf (Zg (Zb (.bool false) (Za (Zc (Zq (Za4 (Zz (Zd6 (Za4 (Zz (Zr ?_)))))))))))))
  rw [show Zkm l m = false from by first | exact Zsp (by omega) | exact Z0x i (by omega) (by assumption)]
  exact Zk (v := .bool false) rfl rfl rfl (by kernel_rfl) rfl
  refine Zl (vx := Iv (i : Nat)) (vy := Iv (n : Nat)) rfl rfl (.bool false) rfl rfl (Zb5 (by omega)) ?_
  refine Za (Zc (Zu rfl (Zbb (Zaq (Zau (Zax rfl (Zc (Zf (Zg (Zb (.bool true) (Za (Zc (Zq (Zr ?_))))))))))))))
  rw [show Zkm l m = true from Z0u (by omega) (fun j hj => hR j (by omega))]
  exact Zk (v := .bool true) rfl rfl rfl (by kernel_rfl) rfl
theorem Z1x (l : List Item) (n c : Nat) (hn : l.length = n) (hc : n ≤ c) (hb : n ≤ 1048576) : Z6 Tryz.prog G 6 [slv 0 0 n c] [rwR Zt l] (slv 1 0 n n) [rwR Zt l, rwB Zt l] := by
  refine Za8 (fn := Tryz.f6) (nt := 8) rfl rfl rfl rfl ?_
  refine Zaa 1 (H' := [rwR Zt l, hole]) rfl ?_
  refine Zf (Zg (Zb (.slice none 0 0) (Za (Zc (Zf (Zg (Zb (.slice none 0 0) (Za (Zc (Zf ?_))))))))))
  refine Zbo (Zb6.nilTmp (i := 3) (b := 1) true 110 rfl (by decide) rfl) ?_
  refine Zg (Zd (slv 1 0 0 0) (Zd (slv 0 0 n c) ?_))
  have hl2 : ([] ++ l).length = n := by have := hn; first | (rw [List.length_append]; omega) | (rw [List.length_append, List.length_take]; omega) | (simp; omega) | simp
  refine Zbp (p := slv 1 0 0 0) (q := slv 0 0 n c) (v := slv 1 0 n n) (b := 1) (blk := rwB Zt ([] ++ l)) (H' := [rwR Zt l, rwB Zt ([] ++ l)]) rfl rfl rfl (.inl ⟨_, rfl⟩) rfl rfl (Zhd Zt (by_ := 216) (k := n) (n' := n) (ms := l) (fun _ => rfl) rfl rfl (Z22 Zt rfl rfl (by have := hn; omega)) rfl rfl rfl (by omega) (by decide) (by omega)) rfl (by kernel_rfl) ?_
  refine Zb (slv 1 0 n n) (Za (Zc (Zf (Zg (Zd (slv 1 0 n n) (Zb (slv 1 0 n n) (Za (Zc (Zq (Zr ?_))))))))))
  exact Zav [0, 1] (v := slv 1 0 n n) rfl (by kernel_rfl) rfl rfl (by decide) (by simp [Za0, rwB, rwR, Zt]) ⟨rfl, rfl, rfl, by first | omega | exact Nat.le_refl _ | exact Nat.zero_le _ | (dsimp only; omega), by first | omega | exact Nat.le_refl _ | exact Nat.zero_le _ | (dsimp only; omega)⟩
end Go.Flat
