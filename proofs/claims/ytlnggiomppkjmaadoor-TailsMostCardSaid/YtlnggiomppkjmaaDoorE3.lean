/- Walks. -/
import Derived.Test.YtlnggiomppkjmaaDoorE2
set_option linter.unusedVariables false
set_option linter.unusedSimpArgs false
set_option maxRecDepth 20000
namespace Go.Flat
open Go.Proofs
variable {G : Glob}
theorem Znn (l : List Item) (i : Nat) (h : i < l.length) : l.drop i = l.getD i default :: l.drop (i + 1) := by
 rw [List.drop_eq_getElem_cons h, List.getD_eq_getElem?_getD, List.getElem?_eq_getElem h]; rfl
def Zjg : Int → List Item → Bool
  | _, [] => true
  | ep, x :: l => decide (Zdh x) && decide (ep ≤ x.epoch) && Zjg x.epoch l
def Zix (l : List Item) : Prop := l.length ≤ 2000 ∧ Zjg 0 l = true
instance (l : List Item) : Decidable (Zix l) := inferInstanceAs (Decidable (_ ∧ _))
def Zj5 (l : List Item) : Int := if Zix l then 0 else 100
theorem Zg3 {l : List Item} (h : Zj5 l = 0) : Zix l := by
 unfold Zj5 at h
 split at h
 ·assumption
 ·omega
theorem Zfe {l : List Item} (h : ¬ Zj5 l = 0) : ¬ Zix l := fun q => h (if_pos q)
theorem Zug {ep : Int} {l : List Item} {i : Nat} {R : Bool} (hR : Zjg ep (l.drop i) = R) (hi : i < l.length) (h1 : Zdh (l.getD i default)) (h2 : ep ≤ (l.getD i default).epoch) : Zjg (l.getD i default).epoch (l.drop (i + 1)) = R := by
 rw [Znn l i hi, Zjg, decide_eq_true h1, decide_eq_true h2] at hR; simpa using hR
theorem Zmf {ep : Int} {l : List Item} {i : Nat} {R : Bool} (hR : Zjg ep (l.drop i) = R) (hi : i < l.length) (h : ¬ (Zdh (l.getD i default) ∧ ep ≤ (l.getD i default).epoch)) : R = false := by
 rw [Znn l i hi, Zjg] at hR
 rw [← hR]
 by_cases h1 : Zdh (l.getD i default)
 ·rw [decide_eq_false (fun q => h ⟨h1, q⟩ : ¬ ep ≤ (l.getD i default).epoch)]; simp
 ·rw [decide_eq_false h1]; simp
def Z7g (l : List Item) (i : Nat) : Int := if i = 0 then 0 else (l.getD (i - 1) default).epoch
def Z35 (x : Item) : Bool := decide (1000 < x.entry.text.size)
def Zkz (l : List Item) : Bool := decide (60 < l.length) || l.any Z35
theorem Zyo {l : List Item} {i : Nat} {p : Item → Bool} {R : Bool} (hR : (l.drop i).any p = R) (hi : i < l.length) (h : p (l.getD i default) = false) : (l.drop (i + 1)).any p = R := by
 rw [Znn l i hi, List.any_cons, h, Bool.false_or] at hR; exact hR
theorem Zvp {l : List Item} {i : Nat} {p : Item → Bool} {R : Bool} (hR : (l.drop i).any p = R) (hi : i < l.length) (h : p (l.getD i default) = true) : R = true := by
 rw [Znn l i hi, List.any_cons, h, Bool.true_or] at hR; exact hR.symm
def Zez (l m : List Item) : Bool := decide (l.length = m.length) && (List.range l.length).all fun i => Zfy (l.getD i default) (m.getD i default)
theorem Zwo {l m : List Item} (h : l.length = m.length) (hR : ∀ j, j < l.length → Zfy (l.getD j default) (m.getD j default) = true) : Zez l m = true := by
 unfold Zez
 rw [decide_eq_true h, Bool.true_and, List.all_eq_true]
 intro j hj
 exact hR j (List.mem_range.1 hj)
theorem Zqg {l m : List Item} (h : l.length ≠ m.length) : Zez l m = false := by
 unfold Zez
 rw [decide_eq_false h, Bool.false_and]
theorem Zwn {l m : List Item} (i : Nat) (hi : i < l.length) (h : Zfy (l.getD i default) (m.getD i default) = false) : Zez l m = false := by
  cases hs : Zez l m with
  | false => rfl
  | true =>
    unfold Zez at hs
    rw [Bool.and_eq_true, List.all_eq_true] at hs
    have := hs.2 i (List.mem_range.2 hi)
    rw [h] at this; cases this
theorem Zu1 (l : List Item) : Zez l l = true := Zwo rfl fun j _ => Zsi _
theorem Zfz (n low high : Int) : Z6 Tryd.prog G 62 [Iv n, Iv low, Iv high] [] (.bool (Zck n low high)) [] := by
 refine Zbh (fn := Tryd.f62) (nt := 15) rfl rfl rfl rfl ?_
 refine Zf (Zg (Zb (.bool false) (Za (Zc (Zf (Zg (Zd (Iv n) (Zd (Iv low) ?_))))))))
 by_cases h1 : low ≤ n
 refine Zm (vx := Iv n) (vy := Iv low) rfl rfl (.bool true) rfl rfl (Zm0 (by omega)) ?_
 refine Zd (.bool true) (Zd (Iv n) (Zd (Iv high) ?_))
 by_cases h2 : n ≤ high
 refine Zm (vx := Iv n) (vy := Iv high) rfl rfl (.bool true) rfl rfl (Zka (by omega)) ?_
 refine Zl (.bool true) (Zb (.bool true) (Za (Zc (Zr (Zu ?_)))))
 rw [show Zck n low high = true from Zbo (by omega) (by omega)]
 exact Zn (v := .bool true) rfl rfl rfl (by kernel_rfl) rfl
 refine Zm (vx := Iv n) (vy := Iv high) rfl rfl (.bool false) rfl rfl (Zlh (by omega)) ?_
 refine Zl (.bool false) (Zb (.bool false) (Za (Zc (Zr (Zu ?_)))))
 rw [show Zck n low high = false from Zac (by omega)]
 exact Zn (v := .bool false) rfl rfl rfl (by kernel_rfl) rfl
 refine Zm (vx := Iv n) (vy := Iv low) rfl rfl (.bool false) rfl rfl (Zof (by omega)) ?_
 refine Zd (.bool false) (Ze (Ze (Ze (Zl (.bool false) (Zb (.bool false) (Za (Zc (Zr (Zu ?_)))))))))
 rw [show Zck n low high = false from Zac (by omega)]
 exact Zn (v := .bool false) rfl rfl rfl (by kernel_rfl) rfl
theorem Z0t (x : Item) : Z6 Tryd.prog G 55 [Zcy x] [] (.bool (decide (Zdh x))) [] := by
  refine Zbh (fn := Tryd.f55) (nt := 12) rfl rfl rfl rfl ?_
  refine Zag 1 (H' := [hole]) rfl ?_
  refine Zf (Zg (Zb4 (v := Zcy x) (b := bxB 110 (Zb7 x)) (nid := 0) (H' := [bxB 110 (Zb7 x)]) (Zb (.bool false) (Za (Zc (Zf (Zg (Zh (b := 0) (o := 0) (n := 0) (o' := 0) (Zo (p := pt 0 0) (v := Iv x.epoch) ?_)))))))))
  by_cases h1 : 1 ≤ x.epoch
  by_cases h2 : x.epoch ≤ 900000000
  refine Zs ((Zfz (G := G) x.epoch 1 900000000).res (congrArg Value.bool (Zbo (by omega) (by omega)))) (vals := [Iv x.epoch, Iv 1, Iv 900000000]) (res' := .bool true) rfl rfl rfl rfl rfl rfl ?_
  refine Zd (.bool true) (Zh (b := 0) (o := 0) (n := 1) (o' := 1) (Zo (p := pt 0 1) (v := Zdy x.entry) ?_))
  refine Zs (Zmx (G := G) x.entry) (vals := [Zdy x.entry]) (res' := Iv (Zej x.entry)) rfl rfl rfl rfl rfl rfl ?_
  by_cases h3 : (Zej x.entry) = 0
  refine Zm (vx := Iv (Zej x.entry)) (vy := Iv 0) rfl rfl (.bool true) rfl rfl (Zc3 (by omega)) ?_
  refine Zl (.bool true) (Zb (.bool true) (Za (Zc (Zr (Zu ?_)))))
  rw [show decide (Zdh x) = true from decide_eq_true ⟨by omega, by omega, Zr3 (by omega)⟩]
  exact Zn (v := .bool true) rfl rfl rfl (by kernel_rfl) rfl
  refine Zm (vx := Iv (Zej x.entry)) (vy := Iv 0) rfl rfl (.bool false) rfl rfl (Zdo (by omega)) ?_
  refine Zl (.bool false) (Zb (.bool false) (Za (Zc (Zr (Zu ?_)))))
  rw [show decide (Zdh x) = false from decide_eq_false (fun q => by first | (have := q.1; have := q.2.1; omega) | (exact Zjb (by omega) q.2.2))]
  exact Zn (v := .bool false) rfl rfl rfl (by kernel_rfl) rfl
  refine Zs ((Zfz (G := G) x.epoch 1 900000000).res (congrArg Value.bool (Zac (by omega)))) (vals := [Iv x.epoch, Iv 1, Iv 900000000]) (res' := .bool false) rfl rfl rfl rfl rfl rfl ?_
  refine Zd (.bool false) (Ze (Ze (Ze (Ze (Zl (.bool false) (Zb (.bool false) (Za (Zc (Zr (Zu ?_))))))))))
  rw [show decide (Zdh x) = false from decide_eq_false (fun q => by first | (have := q.1; have := q.2.1; omega) | (exact Zjb (by omega) q.2.2))]
  exact Zn (v := .bool false) rfl rfl rfl (by kernel_rfl) rfl
  refine Zs ((Zfz (G := G) x.epoch 1 900000000).res (congrArg Value.bool (Zac (by omega)))) (vals := [Iv x.epoch, Iv 1, Iv 900000000]) (res' := .bool false) rfl rfl rfl rfl rfl rfl ?_
  refine Zd (.bool false) (Ze (Ze (Ze (Ze (Zl (.bool false) (Zb (.bool false) (Za (Zc (Zr (Zu ?_))))))))))
  rw [show decide (Zdh x) = false from decide_eq_false (fun q => by first | (have := q.1; have := q.2.1; omega) | (exact Zjb (by omega) q.2.2))]
  exact Zn (v := .bool false) rfl rfl rfl (by kernel_rfl) rfl
theorem Zpn (l : List Item) (n c : Nat) (hn : l.length = n) (hc : n ≤ c) (hb : n ≤ 1048576) : Z6 Tryd.prog G 43 [slv 0 0 n c] [rwR Zj l] (Iv (Zj5 l)) [rwR Zj l] := by
  refine Zbh (fn := Tryd.f43) (nt := 27) rfl rfl rfl rfl ?_
  refine Zf (Zg (Zb (Iv 0) (Za (Zc (Zf (Zg (Zb (Iv 0) (Za (Zc (Zf (Zf (Zg (Zd (slv 0 0 n c) (Zav (p := slv 0 0 n c) (v := Iv (n : Nat)) (Zd (Iv 0) (Za (Zc (Z8 ?_))))))))))))))))))
  refine Zbs (fun x : Nat × Int => match x with | (i, ep) => [slv 0 0 n c, dead, dead, Iv ep, dead, dead, slv 0 0 n c, Iv (n : Nat), Iv (i : Nat)]) (fun x : Nat × Int => match x with | (i, ep) => [rwR Zj l]) (fun x : Nat × Int => match x with | (i, ep) => Zjg ep (l.drop i) = Zjg 0 l ∧ i ≤ n) (fun x : Nat × Int => match x with | (i, ep) => n - i) (0, 0) ⟨rfl, by omega⟩ ?_ ?_
  · refine Zaj (n := 1) rfl ?_ (by kernel_rfl) (by kernel_rfl)
    repeat (first | exact trivial | refine ⟨.inl rfl, ?_⟩ | refine ⟨.inr ⟨rfl, rfl⟩, ?_⟩ | refine ⟨.inr ⟨congrArg (Value.int .i64) (by first | omega | (dsimp only; omega)), rfl⟩, ?_⟩)
  rintro ⟨i, ep⟩ ⟨hR, hi⟩
  dsimp only at *
  refine Zag 2 (H' := [rwR Zj l, hole, hole]) rfl ?_
  refine Zf (Zg ?_)
  by_cases h1 : (i : Nat) < (n : Nat)
  refine Zm (vx := Iv (i : Nat)) (vy := Iv (n : Nat)) rfl rfl (.bool true) rfl rfl (Zcz (by omega)) ?_
  refine Za (Zc (Zf (Zz rfl (Zy (Zc (Zf (Z8 (Zf (Zg ?_)))))))))
  refine Zbb (b := 0) (o := 0) (j := i * 110) (m := n) (c := c) (sz := 110) (i := (i : Nat)) (k := .i64) rfl rfl rfl rfl rfl (by omega) (by omega) (by omega) ?_
  refine Zae (p := pt 0 (i * 110)) (v := Zcy (l.getD i default)) rfl rfl rfl (Zhq (n := 0) (m := 110) Zj rfl rfl rfl rfl (by have := hn; omega) (by omega)) ?_
  refine Za9 (b := bxB 110 (Zb7 (⟨0, (⟨0, 0, 0, ⟨#[]⟩, (⟨(⟨0, 0, 0, dz, 0⟩ : Head), 0, dz⟩ : Signed), (⟨0, 0, 0, 0, dz⟩ : Claim)⟩ : Entry)⟩ : Item))) (nid := 1) (H' := [rwR Zj l, bxB 110 (Zb7 (⟨0, (⟨0, 0, 0, ⟨#[]⟩, (⟨(⟨0, 0, 0, dz, 0⟩ : Head), 0, dz⟩ : Signed), (⟨0, 0, 0, 0, dz⟩ : Claim)⟩ : Entry)⟩ : Item)), hole]) (Zab (p := pt 1 0) (v := Zcy (l.getD i default)) (b := 1) (blk := bxB 110 (Zb7 (l.getD i default))) (H' := [rwR Zj l, bxB 110 (Zb7 (l.getD i default)), hole]) (Za (Zc (Zf (Zf (Zg (Zo (p := pt 1 0) (v := Zcy (l.getD i default)) ?_)))))))
  refine Zs (Z0t (G := G) (l.getD i default)) (vals := [Zcy (l.getD i default)]) (res' := .bool (decide (Zdh (l.getD i default)))) rfl rfl rfl rfl rfl rfl ?_
  rcases Bool.eq_false_or_eq_true (decide (Zdh (l.getD i default))) with h2 | h2
  refine Zgj (vx := .bool (decide (Zdh (l.getD i default)))) rfl rfl (.bool false) rfl (Eq.trans Zdd (congrArg (fun b => some (Value.bool !b)) h2)) ?_
  refine Zd (.bool false) (Zh (b := 1) (o := 0) (n := 0) (o' := 0) (Zo (p := pt 1 0) (v := Iv ((l.getD i default).epoch)) (Zd (Iv ep) ?_)))
  by_cases h3 : ((l.getD i default).epoch) < ep
  refine Zm (vx := Iv ((l.getD i default).epoch)) (vy := Iv ep) rfl rfl (.bool true) rfl rfl (Zcz (by omega)) ?_
  refine Zl (.bool true) (Za (Zc (Zz rfl (Zf (Zg (Zb (Iv 100) (Za (Zc (Zr (Z3 (Zao (Z3 (Zcr (Zao (Z3 (Zu ?_))))))))))))))))
  rw [show Zj5 l = 100 from if_neg (fun q => by have q1 := q.1; have q2 := q.2; first | omega | (rw [Zmf hR (by omega) (fun r => by first | (have := r.2; omega) | exact absurd r.1 (of_decide_eq_false (by assumption)))] at q2; cases q2))]
  exact Zn (v := Iv 100) rfl rfl rfl (by kernel_rfl) rfl
  refine Zm (vx := Iv ((l.getD i default).epoch)) (vy := Iv ep) rfl rfl (.bool false) rfl rfl (Zcv (by omega)) ?_
  refine Zl (.bool false) (Za (Zc (Zt rfl (Zy (Zc (Zg (Zh (b := 1) (o := 0) (n := 0) (o' := 0) (Zo (p := pt 1 0) (v := Iv ((l.getD i default).epoch)) (Zb (Iv ((l.getD i default).epoch)) (Za (Z7 (Zc (Zg ?_)))))))))))))
  refine Zm (vx := Iv (i : Nat)) (vy := Iv 1) rfl rfl (Iv ((i : Nat) + 1)) rfl rfl (Zal (by omega) (by omega) (by omega)) ?_
  refine Zd (Iv ((i : Nat) + 1)) (Za ?_)
  refine Zak ⟨((i + 1), ((l.getD i default).epoch)), ⟨Zug hR (by omega) (of_decide_eq_true (by assumption)) (by omega), by omega⟩, by show n - (i + 1) < n - i; omega, ?_⟩
  refine Zaj (n := 1) rfl ?_ (by kernel_rfl) (by kernel_rfl)
  repeat (first | exact trivial | refine ⟨.inl rfl, ?_⟩ | refine ⟨.inr ⟨rfl, rfl⟩, ?_⟩ | refine ⟨.inr ⟨congrArg (Value.int .i64) (by first | omega | (dsimp only; omega)), rfl⟩, ?_⟩)
  refine Zgj (vx := .bool (decide (Zdh (l.getD i default)))) rfl rfl (.bool true) rfl (Eq.trans Zdd (congrArg (fun b => some (Value.bool !b)) h2)) ?_
  refine Zd (.bool true) (Ze (Ze (Ze (Ze (Zl (.bool true) (Za (Zc (Zz rfl (Zf (Zg (Zb (Iv 100) (Za (Zc (Zr (Z3 (Zao (Z3 (Zcr (Zao (Z3 (Zu ?_)))))))))))))))))))))
  rw [show Zj5 l = 100 from if_neg (fun q => by have q1 := q.1; have q2 := q.2; first | omega | (rw [Zmf hR (by omega) (fun r => by first | (have := r.2; omega) | exact absurd r.1 (of_decide_eq_false (by assumption)))] at q2; cases q2))]
  exact Zn (v := Iv 100) rfl rfl rfl (by kernel_rfl) rfl
  refine Zm (vx := Iv (i : Nat)) (vy := Iv (n : Nat)) rfl rfl (.bool false) rfl rfl (Zcv (by omega)) ?_
  refine Za (Zc (Zf (Zt rfl (Zbm (Zaw (Zay (Za0 rfl (Zc (Zf (Zf (Zg (Zd (slv 0 0 n c) (Zav (p := slv 0 0 n c) (v := Iv (n : Nat)) ?_)))))))))))))
  by_cases h4 : 2000 < (n : Nat)
  refine Zm (vx := Iv (n : Nat)) (vy := Iv 2000) rfl rfl (.bool true) rfl rfl (Zfa (by omega)) ?_
  refine Za (Zc (Zz rfl (Zf (Zg (Zb (Iv 100) (Za (Zc (Zr (Z3 (Zu ?_))))))))))
  rw [show Zj5 l = 100 from if_neg (fun q => by have q1 := q.1; have q2 := q.2; first | omega | (rw [Zmf hR (by omega) (fun r => by first | (have := r.2; omega) | exact absurd r.1 (of_decide_eq_false (by assumption)))] at q2; cases q2))]
  exact Zn (v := Iv 100) rfl rfl rfl (by kernel_rfl) rfl
  refine Zm (vx := Iv (n : Nat)) (vy := Iv 2000) rfl rfl (.bool false) rfl rfl (Ze9 (by omega)) ?_
  refine Za (Zc (Zt rfl (Zy (Zc (Zf (Zg (Zb (Iv 0) (Za (Zc (Zr (Zu ?_)))))))))))
  rw [show Zj5 l = 0 from if_pos ⟨by omega, by rw [← hR, List.drop_of_length_le (by omega)]; rfl⟩]
  exact Zn (v := Iv 0) rfl rfl rfl (by kernel_rfl) rfl
theorem Zx2 (l : List Item) (n c : Nat) (hn : l.length = n) (hc : n ≤ c) (hb : n ≤ 9223372036854775807) : Z6 Tryd.prog G 15 [slv 0 0 n c] [rwR Zj l] (.bool (Zkz l)) [rwR Zj l] := by
  refine Zbh (fn := Tryd.f15) (nt := 21) rfl rfl rfl rfl ?_
  refine Zf (Zg (Zb (.bool false) (Za (Zc (Zf (Zf (Zg (Zd (slv 0 0 n c) (Zav (p := slv 0 0 n c) (v := Iv (n : Nat)) ?_)))))))))
  by_cases h1 : 60 < (n : Nat)
  refine Zm (vx := Iv (n : Nat)) (vy := Iv 60) rfl rfl (.bool true) rfl rfl (Zfa (by omega)) ?_
  refine Za (Zc (Zz rfl (Zf (Zg (Zb (.bool true) (Za (Zc (Zr (Z3 (Zu ?_))))))))))
  rw [show Zkz l = true from by unfold Zkz; first | (rw [decide_eq_true (by omega : 60 < l.length)]; rfl) | (rw [Zvp hR (by omega) (decide_eq_true (by omega)), Bool.or_true])]
  exact Zn (v := .bool true) rfl rfl rfl (by kernel_rfl) rfl
  refine Zm (vx := Iv (n : Nat)) (vy := Iv 60) rfl rfl (.bool false) rfl rfl (Ze9 (by omega)) ?_
  refine Za (Zc (Zt rfl (Zy (Zc (Zf (Zf (Zg (Zb (Iv 0) (Za (Zc (Z8 ?_)))))))))))
  refine Zbs (fun i : Nat => [slv 0 0 n c, dead, dead, Iv (i : Nat), slv 0 0 n c, Iv (n : Nat), .bool false]) (fun i : Nat => [rwR Zj l]) (fun i : Nat => (l.drop i).any Z35 = l.any Z35 ∧ i ≤ n) (fun i : Nat => n - i) 0 ⟨rfl, by omega⟩ ?_ ?_
  · refine Zaj (n := 1) rfl ?_ (by kernel_rfl) (by kernel_rfl)
    repeat (first | exact trivial | refine ⟨.inl rfl, ?_⟩ | refine ⟨.inr ⟨rfl, rfl⟩, ?_⟩ | refine ⟨.inr ⟨congrArg (Value.int .i64) (by first | omega | (dsimp only; omega)), rfl⟩, ?_⟩)
  rintro i ⟨hR, hi⟩
  refine Zag 1 (H' := [rwR Zj l, hole]) rfl ?_
  refine Zf (Zf (Zg (Zd (Iv (i : Nat)) (Zd (slv 0 0 n c) (Zav (p := slv 0 0 n c) (v := Iv (n : Nat)) ?_)))))
  by_cases h2 : (i : Nat) < (n : Nat)
  refine Zm (vx := Iv (i : Nat)) (vy := Iv (n : Nat)) rfl rfl (.bool true) rfl rfl (Zcz (by omega)) ?_
  refine Za (Zc (Zz rfl (Zy (Zc (Zf (Z8 (Zf (Zg (Zd (slv 0 0 n c) (Zd (Iv (i : Nat)) ?_))))))))))
  refine Zbb (b := 0) (o := 0) (j := i * 110) (m := n) (c := c) (sz := 110) (i := (i : Nat)) (k := .i64) rfl rfl rfl rfl rfl (by omega) (by omega) (by omega) ?_
  refine Zam (b := 0) (o := i * 110) (n := 1) (o' := i * 110 + 1) rfl rfl rfl rfl (by omega) ?_
  refine Zam (b := 0) (o := i * 110 + 1) (n := 3) (o' := i * 110 + 4) rfl rfl rfl rfl (by omega) ?_
  refine Zae (p := pt 0 (i * 110 + 4)) (v := .string (((l.getD i default).entry).text)) rfl rfl rfl (Zml Zj (l := l) (i := i) (k := 4) (m := 110) rfl rfl rfl rfl (by have := hn; omega) (by omega) (by kernel_rfl) rfl) ?_
  refine Zav (p := .string (((l.getD i default).entry).text)) (v := Iv ((((((l.getD i default).entry).text).size) : Nat) : Int)) ?_
  by_cases h3 : 1000 < ((((((l.getD i default).entry).text).size) : Nat) : Int)
  refine Zm (vx := Iv ((((((l.getD i default).entry).text).size) : Nat) : Int)) (vy := Iv 1000) rfl rfl (.bool true) rfl rfl (Zfa (by omega)) ?_
  refine Za (Zc (Zz rfl (Zf (Zg (Zb (.bool true) (Za (Zc (Zr (Zao (Z3 (Zcr (Zao (Z3 (Zu ?_))))))))))))))
  rw [show Zkz l = true from by unfold Zkz; first | (rw [decide_eq_true (by omega : 60 < l.length)]; rfl) | (rw [Zvp hR (by omega) (decide_eq_true (by omega)), Bool.or_true])]
  exact Zn (v := .bool true) rfl rfl rfl (by kernel_rfl) rfl
  refine Zm (vx := Iv ((((((l.getD i default).entry).text).size) : Nat) : Int)) (vy := Iv 1000) rfl rfl (.bool false) rfl rfl (Ze9 (by omega)) ?_
  refine Za (Zc (Zt rfl (Zy (Z7 (Zc (Zg (Zd (Iv (i : Nat)) ?_)))))))
  refine Zm (vx := Iv (i : Nat)) (vy := Iv 1) rfl rfl (Iv ((i : Nat) + 1)) rfl rfl (Zal (by omega) (by omega) (by omega)) ?_
  refine Zb (Iv ((i : Nat) + 1)) (Za ?_)
  refine Zak ⟨(i + 1), ⟨Zyo hR (by omega) (decide_eq_false (by omega)), by omega⟩, by show n - (i + 1) < n - i; omega, ?_⟩
  refine Zaj (n := 1) rfl ?_ (by kernel_rfl) (by kernel_rfl)
  repeat (first | exact trivial | refine ⟨.inl rfl, ?_⟩ | refine ⟨.inr ⟨rfl, rfl⟩, ?_⟩ | refine ⟨.inr ⟨congrArg (Value.int .i64) (by first | omega | (dsimp only; omega)), rfl⟩, ?_⟩)
  refine Zm (vx := Iv (i : Nat)) (vy := Iv (n : Nat)) rfl rfl (.bool false) rfl rfl (Zcv (by omega)) ?_
  refine Za (Zc (Zt rfl (Zbm (Zaw (Zay (Za0 rfl (Zc (Zf (Zg (Zb (.bool false) (Za (Zc (Zr (Zu ?_))))))))))))))
  rw [show Zkz l = false from by unfold Zkz; rw [decide_eq_false (by omega : ¬ 60 < l.length), Bool.false_or, ← hR, List.drop_of_length_le (by omega)]; rfl]
  exact Zn (v := .bool false) rfl rfl rfl (by kernel_rfl) rfl
theorem Zu0 (l m : List Item) (n c p d : Nat) (hn : l.length = n) (hm : m.length = p) (hc : n ≤ c) (hd : p ≤ d) (hb : n ≤ 1048576) (hb2 : p ≤ 1048576) : Z6 Tryd.prog G 31 [slv 0 0 n c, slv 1 0 p d] [rwR Zj l, rwR Zj m] (.bool (Zez l m)) [rwR Zj l, rwR Zj m] := by
  refine Zbh (fn := Tryd.f31) (nt := 26) rfl rfl rfl rfl ?_
  refine Zf (Zg (Zb (.bool false) (Za (Zc (Zf (Zf (Zg (Zd (slv 0 0 n c) (Zav (p := slv 0 0 n c) (v := Iv (n : Nat)) (Zd (slv 1 0 p d) (Zav (p := slv 1 0 p d) (v := Iv (p : Nat)) ?_)))))))))))
  by_cases h1 : (n : Nat) ≠ (p : Nat)
  refine Zm (vx := Iv (n : Nat)) (vy := Iv (p : Nat)) rfl rfl (.bool true) rfl rfl (Zgd (by omega)) ?_
  refine Za (Zc (Zz rfl (Zf (Zg (Zb (.bool false) (Za (Zc (Zr (Z3 (Zu ?_))))))))))
  rw [show Zez l m = false from by first | exact Zqg (by omega) | exact Zwn i (by omega) (by assumption)]
  exact Zn (v := .bool false) rfl rfl rfl (by kernel_rfl) rfl
  refine Zm (vx := Iv (n : Nat)) (vy := Iv (p : Nat)) rfl rfl (.bool false) rfl rfl (Zft (by omega)) ?_
  refine Za (Zc (Zt rfl (Zy (Zc (Zf (Zf (Zg (Zb (Iv 0) (Za (Zc (Z8 ?_)))))))))))
  refine Zbs (fun i : Nat => [slv 0 0 n c, slv 1 0 p d, dead, dead, dead, Iv (i : Nat), slv 0 0 n c, Iv (n : Nat), slv 1 0 p d, Iv (p : Nat), .bool false]) (fun i : Nat => [rwR Zj l, rwR Zj m]) (fun i : Nat => (∀ j, j < i → Zfy (l.getD j default) (m.getD j default) = true) ∧ i ≤ n) (fun i : Nat => n - i) 0 ⟨fun _ h => absurd h (by omega), by omega⟩ ?_ ?_
  · refine Zaj (n := 2) rfl ?_ (by kernel_rfl) (by kernel_rfl)
    repeat (first | exact trivial | refine ⟨.inl rfl, ?_⟩ | refine ⟨.inr ⟨rfl, rfl⟩, ?_⟩ | refine ⟨.inr ⟨congrArg (Value.int .i64) (by first | omega | (dsimp only; omega)), rfl⟩, ?_⟩)
  rintro i ⟨hR, hi⟩
  refine Zag 1 (H' := [rwR Zj l, rwR Zj m, hole]) rfl ?_
  refine Zf (Zf (Zg (Zd (Iv (i : Nat)) (Zd (slv 0 0 n c) (Zav (p := slv 0 0 n c) (v := Iv (n : Nat)) ?_)))))
  by_cases h2 : (i : Nat) < (n : Nat)
  refine Zm (vx := Iv (i : Nat)) (vy := Iv (n : Nat)) rfl rfl (.bool true) rfl rfl (Zcz (by omega)) ?_
  refine Za (Zc (Zz rfl (Zy (Zc (Zf (Z8 (Zf ?_)))))))
  refine Zfw (by kernel_rfl) ?_
  refine Zd (slv 0 0 n c) (Zd (Iv (i : Nat)) ?_)
  refine Zbb (b := 0) (o := 0) (j := i * 110) (m := n) (c := c) (sz := 110) (i := (i : Nat)) (k := .i64) rfl rfl rfl rfl rfl (by omega) (by omega) (by omega) ?_
  refine Zae (p := pt 0 (i * 110)) (v := Zcy (l.getD i default)) rfl rfl rfl (Zhq (n := 0) (m := 110) Zj rfl rfl rfl rfl (by have := hn; omega) (by omega)) ?_
  refine Zd (slv 1 0 p d) (Zd (Iv (i : Nat)) ?_)
  refine Zbb (b := 1) (o := 0) (j := i * 110) (m := p) (c := d) (sz := 110) (i := (i : Nat)) (k := .i64) rfl rfl rfl rfl rfl (by omega) (by omega) (by omega) ?_
  refine Zae (p := pt 1 (i * 110)) (v := Zcy (m.getD i default)) rfl rfl rfl (Zhq (n := 0) (m := 110) Zj rfl rfl rfl rfl (by have := hm; omega) (by omega)) ?_
  rcases Bool.eq_false_or_eq_true (Zfy (l.getD i default) (m.getD i default)) with h3 | h3
  refine Zm (vx := Zcy (l.getD i default)) (vy := Zcy (m.getD i default)) rfl rfl (.bool false) rfl rfl (Eq.trans (Zsz (l.getD i default) (m.getD i default)) (by rw [h3] <;> rfl)) ?_
  refine Zcm (Zb2 [[], [], [0, 1], [0, 1, 2], [], [], [4, 5], [4, 5, 6], [0, 1, 2, 3, 4, 5, 6, 7]] (by kernel_rfl) (by kernel_rfl)) ?_
  refine Zc (Zt rfl (Zy (Z7 (Zc (Zg (Zd (Iv (i : Nat)) ?_))))))
  refine Zm (vx := Iv (i : Nat)) (vy := Iv 1) rfl rfl (Iv ((i : Nat) + 1)) rfl rfl (Zal (by omega) (by omega) (by omega)) ?_
  refine Zb (Iv ((i : Nat) + 1)) (Za ?_)
  refine Zak ⟨(i + 1), ⟨fun j hj => by rcases Nat.lt_or_ge j i with h | h; exact hR j h; obtain rfl : j = i := (by omega); assumption, by omega⟩, by show n - (i + 1) < n - i; omega, ?_⟩
  refine Zaj (n := 2) rfl ?_ (by kernel_rfl) (by kernel_rfl)
  repeat (first | exact trivial | refine ⟨.inl rfl, ?_⟩ | refine ⟨.inr ⟨rfl, rfl⟩, ?_⟩ | refine ⟨.inr ⟨congrArg (Value.int .i64) (by first | omega | (dsimp only; omega)), rfl⟩, ?_⟩)
  refine Zm (vx := Zcy (l.getD i default)) (vy := Zcy (m.getD i default)) rfl rfl (.bool true) rfl rfl (Eq.trans (Zsz (l.getD i default) (m.getD i default)) (by rw [h3] <;> rfl)) ?_
  refine Zcm (Zb2 [[], [], [0, 1], [0, 1, 2], [], [], [4, 5], [4, 5, 6], [0, 1, 2, 3, 4, 5, 6, 7]] (by kernel_rfl) (by kernel_rfl)) ?_
  refine Zc (Zz rfl (Zf (Zg (Zb (.bool false) (Za (Zc (Zr (Zao (Z3 (Zcr (Zao (Z3 (Zu ?_)))))))))))))
  rw [show Zez l m = false from by first | exact Zqg (by omega) | exact Zwn i (by omega) (by assumption)]
  exact Zn (v := .bool false) rfl rfl rfl (by kernel_rfl) rfl
  refine Zm (vx := Iv (i : Nat)) (vy := Iv (n : Nat)) rfl rfl (.bool false) rfl rfl (Zcv (by omega)) ?_
  refine Za (Zc (Zt rfl (Zbm (Zaw (Zay (Za0 rfl (Zc (Zf (Zg (Zb (.bool true) (Za (Zc (Zr (Zu ?_))))))))))))))
  rw [show Zez l m = true from Zwo (by omega) (fun j hj => hR j (by omega))]
  exact Zn (v := .bool true) rfl rfl rfl (by kernel_rfl) rfl
end Go.Flat
