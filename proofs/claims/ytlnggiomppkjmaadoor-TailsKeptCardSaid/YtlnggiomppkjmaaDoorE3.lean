/- Walks. -/
import Derived.Test.YtlnggiomppkjmaaDoorE2
set_option linter.unusedVariables false
set_option linter.unusedSimpArgs false
set_option maxRecDepth 20000
namespace Go.Flat
open Go.Proofs
variable {G : Glob}
theorem Zm6 (l : List Item) (i : Nat) (h : i < l.length) : l.drop i = l.getD i default :: l.drop (i + 1) := by
 rw [List.drop_eq_getElem_cons h, List.getD_eq_getElem?_getD, List.getElem?_eq_getElem h]; rfl
def Zfa : Int → List Item → Bool
  | _, [] => true
  | ep, x :: l => decide (Zcr x) && decide (ep ≤ x.epoch) && Zfa x.epoch l
def Zim (l : List Item) : Prop := l.length ≤ 2000 ∧ Zfa 0 l = true
instance (l : List Item) : Decidable (Zim l) := inferInstanceAs (Decidable (_ ∧ _))
def Zjx (l : List Item) : Int := if Zim l then 0 else 100
theorem Zgp {l : List Item} (h : Zjx l = 0) : Zim l := by
 unfold Zjx at h
 split at h
 ·assumption
 ·omega
theorem Ze7 {l : List Item} (h : ¬ Zjx l = 0) : ¬ Zim l := fun q => h (if_pos q)
theorem Ztz {ep : Int} {l : List Item} {i : Nat} {R : Bool} (hR : Zfa ep (l.drop i) = R) (hi : i < l.length) (h1 : Zcr (l.getD i default)) (h2 : ep ≤ (l.getD i default).epoch) : Zfa (l.getD i default).epoch (l.drop (i + 1)) = R := by
 rw [Zm6 l i hi, Zfa, decide_eq_true h1, decide_eq_true h2] at hR; simpa using hR
theorem Zl3 {ep : Int} {l : List Item} {i : Nat} {R : Bool} (hR : Zfa ep (l.drop i) = R) (hi : i < l.length) (h : ¬ (Zcr (l.getD i default) ∧ ep ≤ (l.getD i default).epoch)) : R = false := by
 rw [Zm6 l i hi, Zfa] at hR
 rw [← hR]
 by_cases h1 : Zcr (l.getD i default)
 ·rw [decide_eq_false (fun q => h ⟨h1, q⟩ : ¬ ep ≤ (l.getD i default).epoch)]; simp
 ·rw [decide_eq_false h1]; simp
def Z6s (l : List Item) (i : Nat) : Int := if i = 0 then 0 else (l.getD (i - 1) default).epoch
def Z3e (x : Item) : Bool := decide (1000 < x.entry.text.size)
def Zjw (l : List Item) : Bool := decide (60 < l.length) || l.any Z3e
theorem Zx4 {l : List Item} {i : Nat} {p : Item → Bool} {R : Bool} (hR : (l.drop i).any p = R) (hi : i < l.length) (h : p (l.getD i default) = false) : (l.drop (i + 1)).any p = R := by
 rw [Zm6 l i hi, List.any_cons, h, Bool.false_or] at hR; exact hR
theorem Zu7 {l : List Item} {i : Nat} {p : Item → Bool} {R : Bool} (hR : (l.drop i).any p = R) (hi : i < l.length) (h : p (l.getD i default) = true) : R = true := by
 rw [Zm6 l i hi, List.any_cons, h, Bool.true_or] at hR; exact hR.symm
def Ze4 (l m : List Item) : Bool := decide (l.length = m.length) && (List.range l.length).all fun i => Zgr (l.getD i default) (m.getD i default)
theorem Z2d {l m : List Item} (h : l.length = m.length) (hR : ∀ j, j < l.length → Zgr (l.getD j default) (m.getD j default) = true) : Ze4 l m = true := by
 unfold Ze4
 rw [decide_eq_true h, Bool.true_and, List.all_eq_true]
 intro j hj
 exact hR j (List.mem_range.1 hj)
theorem Zp4 {l m : List Item} (h : l.length ≠ m.length) : Ze4 l m = false := by
 unfold Ze4
 rw [decide_eq_false h, Bool.false_and]
theorem Zv5 {l m : List Item} (i : Nat) (hi : i < l.length) (h : Zgr (l.getD i default) (m.getD i default) = false) : Ze4 l m = false := by
  cases hs : Ze4 l m with
  | false => rfl
  | true =>
    unfold Ze4 at hs
    rw [Bool.and_eq_true, List.all_eq_true] at hs
    have := hs.2 i (List.mem_range.2 hi)
    rw [h] at this; cases this
theorem Zfr (n low high : Int) : Z4 Tryd.prog G 62 [Iv n, Iv low, Iv high] [] (.bool (Zcg n low high)) [] := by
 refine Zbd (fn := Tryd.f62) (nt := 15) rfl rfl rfl rfl ?_
 refine Ze (Zg (Zc (.bool false) (Za (Zb (Ze (Zg (Zd (Iv n) (Zd (Iv low) ?_))))))))
 by_cases h1 : low ≤ n
 refine Zl (vx := Iv n) (vy := Iv low) rfl rfl (.bool true) rfl rfl (Znx (by omega)) ?_
 refine Zd (.bool true) (Zd (Iv n) (Zd (Iv high) ?_))
 by_cases h2 : n ≤ high
 refine Zl (vx := Iv n) (vy := Iv high) rfl rfl (.bool true) rfl rfl (Zj3 (by omega)) ?_
 refine Zj (.bool true) (Zc (.bool true) (Za (Zb (Zr (Zs ?_)))))
 rw [show Zcg n low high = true from Zbn (by omega) (by omega)]
 exact Zk (v := .bool true) rfl rfl rfl (by kernel_rfl) rfl
 refine Zl (vx := Iv n) (vy := Iv high) rfl rfl (.bool false) rfl rfl (Zj2 (by omega)) ?_
 refine Zj (.bool false) (Zc (.bool false) (Za (Zb (Zr (Zs ?_)))))
 rw [show Zcg n low high = false from Zab (by omega)]
 exact Zk (v := .bool false) rfl rfl rfl (by kernel_rfl) rfl
 refine Zl (vx := Iv n) (vy := Iv low) rfl rfl (.bool false) rfl rfl (Znw (by omega)) ?_
 refine Zd (.bool false) (Zf (Zf (Zf (Zj (.bool false) (Zc (.bool false) (Za (Zb (Zr (Zs ?_)))))))))
 rw [show Zcg n low high = false from Zab (by omega)]
 exact Zk (v := .bool false) rfl rfl rfl (by kernel_rfl) rfl
theorem Zz4 (x : Item) : Z4 Tryd.prog G 55 [Zcs x] [] (.bool (decide (Zcr x))) [] := by
  refine Zbd (fn := Tryd.f55) (nt := 12) rfl rfl rfl rfl ?_
  refine Zae 1 (H' := [hole]) rfl ?_
  refine Ze (Zg (Zbs (v := Zcs x) (b := bxB 110 (Zb5 x)) (nid := 0) (H' := [bxB 110 (Zb5 x)]) (Zc (.bool false) (Za (Zb (Ze (Zg (Zi (b := 0) (o := 0) (n := 0) (o' := 0) (Zm (p := pt 0 0) (v := Iv x.epoch) ?_)))))))))
  by_cases h1 : 1 ≤ x.epoch
  by_cases h2 : x.epoch ≤ 900000000
  refine Zq ((Zfr (G := G) x.epoch 1 900000000).res (congrArg Value.bool (Zbn (by omega) (by omega)))) (vals := [Iv x.epoch, Iv 1, Iv 900000000]) (res' := .bool true) rfl rfl rfl rfl rfl rfl ?_
  refine Zd (.bool true) (Zi (b := 0) (o := 0) (n := 1) (o' := 1) (Zm (p := pt 0 1) (v := Zdv x.entry) ?_))
  refine Zq (Zmi (G := G) x.entry) (vals := [Zdv x.entry]) (res' := Iv (Zej x.entry)) rfl rfl rfl rfl rfl rfl ?_
  by_cases h3 : (Zej x.entry) = 0
  refine Zl (vx := Iv (Zej x.entry)) (vy := Iv 0) rfl rfl (.bool true) rfl rfl (Zc2 (by omega)) ?_
  refine Zj (.bool true) (Zc (.bool true) (Za (Zb (Zr (Zs ?_)))))
  rw [show decide (Zcr x) = true from decide_eq_true ⟨by omega, by omega, Zrq (by omega)⟩]
  exact Zk (v := .bool true) rfl rfl rfl (by kernel_rfl) rfl
  refine Zl (vx := Iv (Zej x.entry)) (vy := Iv 0) rfl rfl (.bool false) rfl rfl (Zed (by omega)) ?_
  refine Zj (.bool false) (Zc (.bool false) (Za (Zb (Zr (Zs ?_)))))
  rw [show decide (Zcr x) = false from decide_eq_false (fun q => by first | (have := q.1; have := q.2.1; omega) | (exact Zi2 (by omega) q.2.2))]
  exact Zk (v := .bool false) rfl rfl rfl (by kernel_rfl) rfl
  refine Zq ((Zfr (G := G) x.epoch 1 900000000).res (congrArg Value.bool (Zab (by omega)))) (vals := [Iv x.epoch, Iv 1, Iv 900000000]) (res' := .bool false) rfl rfl rfl rfl rfl rfl ?_
  refine Zd (.bool false) (Zf (Zf (Zf (Zf (Zj (.bool false) (Zc (.bool false) (Za (Zb (Zr (Zs ?_))))))))))
  rw [show decide (Zcr x) = false from decide_eq_false (fun q => by first | (have := q.1; have := q.2.1; omega) | (exact Zi2 (by omega) q.2.2))]
  exact Zk (v := .bool false) rfl rfl rfl (by kernel_rfl) rfl
  refine Zq ((Zfr (G := G) x.epoch 1 900000000).res (congrArg Value.bool (Zab (by omega)))) (vals := [Iv x.epoch, Iv 1, Iv 900000000]) (res' := .bool false) rfl rfl rfl rfl rfl rfl ?_
  refine Zd (.bool false) (Zf (Zf (Zf (Zf (Zj (.bool false) (Zc (.bool false) (Za (Zb (Zr (Zs ?_))))))))))
  rw [show decide (Zcr x) = false from decide_eq_false (fun q => by first | (have := q.1; have := q.2.1; omega) | (exact Zi2 (by omega) q.2.2))]
  exact Zk (v := .bool false) rfl rfl rfl (by kernel_rfl) rfl
theorem Zpb (l : List Item) (n c : Nat) (hn : l.length = n) (hc : n ≤ c) (hb : n ≤ 1048576) : Z4 Tryd.prog G 43 [slv 0 0 n c] [rwR Zh l] (Iv (Zjx l)) [rwR Zh l] := by
  refine Zbd (fn := Tryd.f43) (nt := 27) rfl rfl rfl rfl ?_
  refine Ze (Zg (Zc (Iv 0) (Za (Zb (Ze (Zg (Zc (Iv 0) (Za (Zb (Ze (Ze (Zg (Zd (slv 0 0 n c) (Zba (p := slv 0 0 n c) (v := Iv (n : Nat)) (Zd (Iv 0) (Za (Zb (Z7 ?_))))))))))))))))))
  refine Zb2 (fun x : Nat × Int => match x with | (i, ep) => [slv 0 0 n c, dead, dead, Iv ep, dead, dead, slv 0 0 n c, Iv (n : Nat), Iv (i : Nat)]) (fun x : Nat × Int => match x with | (i, ep) => [rwR Zh l]) (fun x : Nat × Int => match x with | (i, ep) => Zfa ep (l.drop i) = Zfa 0 l ∧ i ≤ n) (fun x : Nat × Int => match x with | (i, ep) => n - i) (0, 0) ⟨rfl, by omega⟩ ?_ ?_
  · refine Zah (n := 1) rfl ?_ (by kernel_rfl) (by kernel_rfl)
    repeat (first | exact trivial | refine ⟨.inl rfl, ?_⟩ | refine ⟨.inr ⟨rfl, rfl⟩, ?_⟩ | refine ⟨.inr ⟨congrArg (Value.int .i64) (by first | omega | (dsimp only; omega)), rfl⟩, ?_⟩)
  rintro ⟨i, ep⟩ ⟨hR, hi⟩
  dsimp only at *
  refine Zae 2 (H' := [rwR Zh l, hole, hole]) rfl ?_
  refine Ze (Zg ?_)
  by_cases h1 : (i : Nat) < (n : Nat)
  refine Zl (vx := Iv (i : Nat)) (vy := Iv (n : Nat)) rfl rfl (.bool true) rfl rfl (Zc0 (by omega)) ?_
  refine Za (Zb (Ze (Zy rfl (Zx (Zb (Ze (Z7 (Ze (Zg ?_)))))))))
  refine Zb1 (b := 0) (o := 0) (j := i * 110) (m := n) (c := c) (sz := 110) (i := (i : Nat)) (k := .i64) rfl rfl rfl rfl rfl (by omega) (by omega) (by omega) ?_
  refine Zaj (p := pt 0 (i * 110)) (v := Zcs (l.getD i default)) rfl rfl rfl (Zhf (n := 0) (m := 110) Zh rfl rfl rfl rfl (by have := hn; omega) (by omega)) ?_
  refine Zaw (b := bxB 110 (Zb5 (⟨0, (⟨0, 0, 0, ⟨#[]⟩, (⟨(⟨0, 0, 0, dz, 0⟩ : Head), 0, dz⟩ : Signed), (⟨0, 0, 0, 0, dz⟩ : Claim)⟩ : Entry)⟩ : Item))) (nid := 1) (H' := [rwR Zh l, bxB 110 (Zb5 (⟨0, (⟨0, 0, 0, ⟨#[]⟩, (⟨(⟨0, 0, 0, dz, 0⟩ : Head), 0, dz⟩ : Signed), (⟨0, 0, 0, 0, dz⟩ : Claim)⟩ : Entry)⟩ : Item)), hole]) (Zaa (p := pt 1 0) (v := Zcs (l.getD i default)) (b := 1) (blk := bxB 110 (Zb5 (l.getD i default))) (H' := [rwR Zh l, bxB 110 (Zb5 (l.getD i default)), hole]) (Za (Zb (Ze (Ze (Zg (Zm (p := pt 1 0) (v := Zcs (l.getD i default)) ?_)))))))
  refine Zq (Zz4 (G := G) (l.getD i default)) (vals := [Zcs (l.getD i default)]) (res' := .bool (decide (Zcr (l.getD i default)))) rfl rfl rfl rfl rfl rfl ?_
  rcases Bool.eq_false_or_eq_true (decide (Zcr (l.getD i default))) with h2 | h2
  refine Zgz (vx := .bool (decide (Zcr (l.getD i default)))) rfl rfl (.bool false) rfl (Eq.trans Zdk (congrArg (fun b => some (Value.bool !b)) h2)) ?_
  refine Zd (.bool false) (Zi (b := 1) (o := 0) (n := 0) (o' := 0) (Zm (p := pt 1 0) (v := Iv ((l.getD i default).epoch)) (Zd (Iv ep) ?_)))
  by_cases h3 : ((l.getD i default).epoch) < ep
  refine Zl (vx := Iv ((l.getD i default).epoch)) (vy := Iv ep) rfl rfl (.bool true) rfl rfl (Zc0 (by omega)) ?_
  refine Zj (.bool true) (Za (Zb (Zy rfl (Ze (Zg (Zc (Iv 100) (Za (Zb (Zr (Z3 (Zbg (Z3 (Zdu (Zbg (Z3 (Zs ?_))))))))))))))))
  rw [show Zjx l = 100 from if_neg (fun q => by have q1 := q.1; have q2 := q.2; first | omega | (rw [Zl3 hR (by omega) (fun r => by first | (have := r.2; omega) | exact absurd r.1 (of_decide_eq_false (by assumption)))] at q2; cases q2))]
  exact Zk (v := Iv 100) rfl rfl rfl (by kernel_rfl) rfl
  refine Zl (vx := Iv ((l.getD i default).epoch)) (vy := Iv ep) rfl rfl (.bool false) rfl rfl (Zct (by omega)) ?_
  refine Zj (.bool false) (Za (Zb (Zt rfl (Zx (Zb (Zg (Zi (b := 1) (o := 0) (n := 0) (o' := 0) (Zm (p := pt 1 0) (v := Iv ((l.getD i default).epoch)) (Zc (Iv ((l.getD i default).epoch)) (Za (Z8 (Zb (Zg ?_)))))))))))))
  refine Zl (vx := Iv (i : Nat)) (vy := Iv 1) rfl rfl (Iv ((i : Nat) + 1)) rfl rfl (Zan (by omega) (by omega) (by omega)) ?_
  refine Zd (Iv ((i : Nat) + 1)) (Za ?_)
  refine Zak ⟨((i + 1), ((l.getD i default).epoch)), ⟨Ztz hR (by omega) (of_decide_eq_true (by assumption)) (by omega), by omega⟩, by show n - (i + 1) < n - i; omega, ?_⟩
  refine Zah (n := 1) rfl ?_ (by kernel_rfl) (by kernel_rfl)
  repeat (first | exact trivial | refine ⟨.inl rfl, ?_⟩ | refine ⟨.inr ⟨rfl, rfl⟩, ?_⟩ | refine ⟨.inr ⟨congrArg (Value.int .i64) (by first | omega | (dsimp only; omega)), rfl⟩, ?_⟩)
  refine Zgz (vx := .bool (decide (Zcr (l.getD i default)))) rfl rfl (.bool true) rfl (Eq.trans Zdk (congrArg (fun b => some (Value.bool !b)) h2)) ?_
  refine Zd (.bool true) (Zf (Zf (Zf (Zf (Zj (.bool true) (Za (Zb (Zy rfl (Ze (Zg (Zc (Iv 100) (Za (Zb (Zr (Z3 (Zbg (Z3 (Zdu (Zbg (Z3 (Zs ?_)))))))))))))))))))))
  rw [show Zjx l = 100 from if_neg (fun q => by have q1 := q.1; have q2 := q.2; first | omega | (rw [Zl3 hR (by omega) (fun r => by first | (have := r.2; omega) | exact absurd r.1 (of_decide_eq_false (by assumption)))] at q2; cases q2))]
  exact Zk (v := Iv 100) rfl rfl rfl (by kernel_rfl) rfl
  refine Zl (vx := Iv (i : Nat)) (vy := Iv (n : Nat)) rfl rfl (.bool false) rfl rfl (Zct (by omega)) ?_
  refine Za (Zb (Ze (Zt rfl (Zbp (Zau (Za2 (Za1 rfl (Zb (Ze (Ze (Zg (Zd (slv 0 0 n c) (Zba (p := slv 0 0 n c) (v := Iv (n : Nat)) ?_)))))))))))))
  by_cases h4 : 2000 < (n : Nat)
  refine Zl (vx := Iv (n : Nat)) (vy := Iv 2000) rfl rfl (.bool true) rfl rfl (Zgu (by omega)) ?_
  refine Za (Zb (Zy rfl (Ze (Zg (Zc (Iv 100) (Za (Zb (Zr (Z3 (Zs ?_))))))))))
  rw [show Zjx l = 100 from if_neg (fun q => by have q1 := q.1; have q2 := q.2; first | omega | (rw [Zl3 hR (by omega) (fun r => by first | (have := r.2; omega) | exact absurd r.1 (of_decide_eq_false (by assumption)))] at q2; cases q2))]
  exact Zk (v := Iv 100) rfl rfl rfl (by kernel_rfl) rfl
  refine Zl (vx := Iv (n : Nat)) (vy := Iv 2000) rfl rfl (.bool false) rfl rfl (Zgt (by omega)) ?_
  refine Za (Zb (Zt rfl (Zx (Zb (Ze (Zg (Zc (Iv 0) (Za (Zb (Zr (Zs ?_)))))))))))
  rw [show Zjx l = 0 from if_pos ⟨by omega, by rw [← hR, List.drop_of_length_le (by omega)]; rfl⟩]
  exact Zk (v := Iv 0) rfl rfl rfl (by kernel_rfl) rfl
theorem Zxi (l : List Item) (n c : Nat) (hn : l.length = n) (hc : n ≤ c) (hb : n ≤ 9223372036854775807) : Z4 Tryd.prog G 15 [slv 0 0 n c] [rwR Zh l] (.bool (Zjw l)) [rwR Zh l] := by
  refine Zbd (fn := Tryd.f15) (nt := 21) rfl rfl rfl rfl ?_
  refine Ze (Zg (Zc (.bool false) (Za (Zb (Ze (Ze (Zg (Zd (slv 0 0 n c) (Zba (p := slv 0 0 n c) (v := Iv (n : Nat)) ?_)))))))))
  by_cases h1 : 60 < (n : Nat)
  refine Zl (vx := Iv (n : Nat)) (vy := Iv 60) rfl rfl (.bool true) rfl rfl (Zgu (by omega)) ?_
  refine Za (Zb (Zy rfl (Ze (Zg (Zc (.bool true) (Za (Zb (Zr (Z3 (Zs ?_))))))))))
  rw [show Zjw l = true from by unfold Zjw; first | (rw [decide_eq_true (by omega : 60 < l.length)]; rfl) | (rw [Zu7 hR (by omega) (decide_eq_true (by omega)), Bool.or_true])]
  exact Zk (v := .bool true) rfl rfl rfl (by kernel_rfl) rfl
  refine Zl (vx := Iv (n : Nat)) (vy := Iv 60) rfl rfl (.bool false) rfl rfl (Zgt (by omega)) ?_
  refine Za (Zb (Zt rfl (Zx (Zb (Ze (Ze (Zg (Zc (Iv 0) (Za (Zb (Z7 ?_)))))))))))
  refine Zb2 (fun i : Nat => [slv 0 0 n c, dead, dead, Iv (i : Nat), slv 0 0 n c, Iv (n : Nat), .bool false]) (fun i : Nat => [rwR Zh l]) (fun i : Nat => (l.drop i).any Z3e = l.any Z3e ∧ i ≤ n) (fun i : Nat => n - i) 0 ⟨rfl, by omega⟩ ?_ ?_
  · refine Zah (n := 1) rfl ?_ (by kernel_rfl) (by kernel_rfl)
    repeat (first | exact trivial | refine ⟨.inl rfl, ?_⟩ | refine ⟨.inr ⟨rfl, rfl⟩, ?_⟩ | refine ⟨.inr ⟨congrArg (Value.int .i64) (by first | omega | (dsimp only; omega)), rfl⟩, ?_⟩)
  rintro i ⟨hR, hi⟩
  refine Zae 1 (H' := [rwR Zh l, hole]) rfl ?_
  refine Ze (Ze (Zg (Zd (Iv (i : Nat)) (Zd (slv 0 0 n c) (Zba (p := slv 0 0 n c) (v := Iv (n : Nat)) ?_)))))
  by_cases h2 : (i : Nat) < (n : Nat)
  refine Zl (vx := Iv (i : Nat)) (vy := Iv (n : Nat)) rfl rfl (.bool true) rfl rfl (Zc0 (by omega)) ?_
  refine Za (Zb (Zy rfl (Zx (Zb (Ze (Z7 (Ze (Zg (Zd (slv 0 0 n c) (Zd (Iv (i : Nat)) ?_))))))))))
  refine Zb1 (b := 0) (o := 0) (j := i * 110) (m := n) (c := c) (sz := 110) (i := (i : Nat)) (k := .i64) rfl rfl rfl rfl rfl (by omega) (by omega) (by omega) ?_
  refine Zbk (b := 0) (o := i * 110) (n := 1) (o' := i * 110 + 1) rfl rfl rfl rfl (by omega) ?_
  refine Zbk (b := 0) (o := i * 110 + 1) (n := 3) (o' := i * 110 + 4) rfl rfl rfl rfl (by omega) ?_
  refine Zaj (p := pt 0 (i * 110 + 4)) (v := .string (((l.getD i default).entry).text)) rfl rfl rfl (Zl9 Zh (l := l) (i := i) (k := 4) (m := 110) rfl rfl rfl rfl (by have := hn; omega) (by omega) (by kernel_rfl) rfl) ?_
  refine Zba (p := .string (((l.getD i default).entry).text)) (v := Iv ((((((l.getD i default).entry).text).size) : Nat) : Int)) ?_
  by_cases h3 : 1000 < ((((((l.getD i default).entry).text).size) : Nat) : Int)
  refine Zl (vx := Iv ((((((l.getD i default).entry).text).size) : Nat) : Int)) (vy := Iv 1000) rfl rfl (.bool true) rfl rfl (Zgu (by omega)) ?_
  refine Za (Zb (Zy rfl (Ze (Zg (Zc (.bool true) (Za (Zb (Zr (Zbg (Z3 (Zdu (Zbg (Z3 (Zs ?_))))))))))))))
  rw [show Zjw l = true from by unfold Zjw; first | (rw [decide_eq_true (by omega : 60 < l.length)]; rfl) | (rw [Zu7 hR (by omega) (decide_eq_true (by omega)), Bool.or_true])]
  exact Zk (v := .bool true) rfl rfl rfl (by kernel_rfl) rfl
  refine Zl (vx := Iv ((((((l.getD i default).entry).text).size) : Nat) : Int)) (vy := Iv 1000) rfl rfl (.bool false) rfl rfl (Zgt (by omega)) ?_
  refine Za (Zb (Zt rfl (Zx (Z8 (Zb (Zg (Zd (Iv (i : Nat)) ?_)))))))
  refine Zl (vx := Iv (i : Nat)) (vy := Iv 1) rfl rfl (Iv ((i : Nat) + 1)) rfl rfl (Zan (by omega) (by omega) (by omega)) ?_
  refine Zc (Iv ((i : Nat) + 1)) (Za ?_)
  refine Zak ⟨(i + 1), ⟨Zx4 hR (by omega) (decide_eq_false (by omega)), by omega⟩, by show n - (i + 1) < n - i; omega, ?_⟩
  refine Zah (n := 1) rfl ?_ (by kernel_rfl) (by kernel_rfl)
  repeat (first | exact trivial | refine ⟨.inl rfl, ?_⟩ | refine ⟨.inr ⟨rfl, rfl⟩, ?_⟩ | refine ⟨.inr ⟨congrArg (Value.int .i64) (by first | omega | (dsimp only; omega)), rfl⟩, ?_⟩)
  refine Zl (vx := Iv (i : Nat)) (vy := Iv (n : Nat)) rfl rfl (.bool false) rfl rfl (Zct (by omega)) ?_
  refine Za (Zb (Zt rfl (Zbp (Zau (Za2 (Za1 rfl (Zb (Ze (Zg (Zc (.bool false) (Za (Zb (Zr (Zs ?_))))))))))))))
  rw [show Zjw l = false from by unfold Zjw; rw [decide_eq_false (by omega : ¬ 60 < l.length), Bool.false_or, ← hR, List.drop_of_length_le (by omega)]; rfl]
  exact Zk (v := .bool false) rfl rfl rfl (by kernel_rfl) rfl
theorem Zuj (l m : List Item) (n c p d : Nat) (hn : l.length = n) (hm : m.length = p) (hc : n ≤ c) (hd : p ≤ d) (hb : n ≤ 1048576) (hb2 : p ≤ 1048576) : Z4 Tryd.prog G 31 [slv 0 0 n c, slv 1 0 p d] [rwR Zh l, rwR Zh m] (.bool (Ze4 l m)) [rwR Zh l, rwR Zh m] := by
  refine Zbd (fn := Tryd.f31) (nt := 26) rfl rfl rfl rfl ?_
  refine Ze (Zg (Zc (.bool false) (Za (Zb (Ze (Ze (Zg (Zd (slv 0 0 n c) (Zba (p := slv 0 0 n c) (v := Iv (n : Nat)) (Zd (slv 1 0 p d) (Zba (p := slv 1 0 p d) (v := Iv (p : Nat)) ?_)))))))))))
  by_cases h1 : (n : Nat) ≠ (p : Nat)
  refine Zl (vx := Iv (n : Nat)) (vy := Iv (p : Nat)) rfl rfl (.bool true) rfl rfl (Zfc (by omega)) ?_
  refine Za (Zb (Zy rfl (Ze (Zg (Zc (.bool false) (Za (Zb (Zr (Z3 (Zs ?_))))))))))
  rw [show Ze4 l m = false from by first | exact Zp4 (by omega) | exact Zv5 i (by omega) (by assumption)]
  exact Zk (v := .bool false) rfl rfl rfl (by kernel_rfl) rfl
  refine Zl (vx := Iv (n : Nat)) (vy := Iv (p : Nat)) rfl rfl (.bool false) rfl rfl (Ze3 (by omega)) ?_
  refine Za (Zb (Zt rfl (Zx (Zb (Ze (Ze (Zg (Zc (Iv 0) (Za (Zb (Z7 ?_)))))))))))
  refine Zb2 (fun i : Nat => [slv 0 0 n c, slv 1 0 p d, dead, dead, dead, Iv (i : Nat), slv 0 0 n c, Iv (n : Nat), slv 1 0 p d, Iv (p : Nat), .bool false]) (fun i : Nat => [rwR Zh l, rwR Zh m]) (fun i : Nat => (∀ j, j < i → Zgr (l.getD j default) (m.getD j default) = true) ∧ i ≤ n) (fun i : Nat => n - i) 0 ⟨fun _ h => absurd h (by omega), by omega⟩ ?_ ?_
  · refine Zah (n := 2) rfl ?_ (by kernel_rfl) (by kernel_rfl)
    repeat (first | exact trivial | refine ⟨.inl rfl, ?_⟩ | refine ⟨.inr ⟨rfl, rfl⟩, ?_⟩ | refine ⟨.inr ⟨congrArg (Value.int .i64) (by first | omega | (dsimp only; omega)), rfl⟩, ?_⟩)
  rintro i ⟨hR, hi⟩
  refine Zae 1 (H' := [rwR Zh l, rwR Zh m, hole]) rfl ?_
  refine Ze (Ze (Zg (Zd (Iv (i : Nat)) (Zd (slv 0 0 n c) (Zba (p := slv 0 0 n c) (v := Iv (n : Nat)) ?_)))))
  by_cases h2 : (i : Nat) < (n : Nat)
  refine Zl (vx := Iv (i : Nat)) (vy := Iv (n : Nat)) rfl rfl (.bool true) rfl rfl (Zc0 (by omega)) ?_
  refine Za (Zb (Zy rfl (Zx (Zb (Ze (Z7 (Ze ?_)))))))
  refine Zgo (by kernel_rfl) ?_
  refine Zd (slv 0 0 n c) (Zd (Iv (i : Nat)) ?_)
  refine Zb1 (b := 0) (o := 0) (j := i * 110) (m := n) (c := c) (sz := 110) (i := (i : Nat)) (k := .i64) rfl rfl rfl rfl rfl (by omega) (by omega) (by omega) ?_
  refine Zaj (p := pt 0 (i * 110)) (v := Zcs (l.getD i default)) rfl rfl rfl (Zhf (n := 0) (m := 110) Zh rfl rfl rfl rfl (by have := hn; omega) (by omega)) ?_
  refine Zd (slv 1 0 p d) (Zd (Iv (i : Nat)) ?_)
  refine Zb1 (b := 1) (o := 0) (j := i * 110) (m := p) (c := d) (sz := 110) (i := (i : Nat)) (k := .i64) rfl rfl rfl rfl rfl (by omega) (by omega) (by omega) ?_
  refine Zaj (p := pt 1 (i * 110)) (v := Zcs (m.getD i default)) rfl rfl rfl (Zhf (n := 0) (m := 110) Zh rfl rfl rfl rfl (by have := hm; omega) (by omega)) ?_
  rcases Bool.eq_false_or_eq_true (Zgr (l.getD i default) (m.getD i default)) with h3 | h3
  refine Zl (vx := Zcs (l.getD i default)) (vy := Zcs (m.getD i default)) rfl rfl (.bool false) rfl rfl (Eq.trans (Zsl (l.getD i default) (m.getD i default)) (by rw [h3] <;> rfl)) ?_
  refine Zef (Zd8 [[], [], [0, 1], [0, 1, 2], [], [], [4, 5], [4, 5, 6], [0, 1, 2, 3, 4, 5, 6, 7]] (by kernel_rfl) (by kernel_rfl)) ?_
  refine Zb (Zt rfl (Zx (Z8 (Zb (Zg (Zd (Iv (i : Nat)) ?_))))))
  refine Zl (vx := Iv (i : Nat)) (vy := Iv 1) rfl rfl (Iv ((i : Nat) + 1)) rfl rfl (Zan (by omega) (by omega) (by omega)) ?_
  refine Zc (Iv ((i : Nat) + 1)) (Za ?_)
  refine Zak ⟨(i + 1), ⟨fun j hj => by rcases Nat.lt_or_ge j i with h | h; exact hR j h; obtain rfl : j = i := (by omega); assumption, by omega⟩, by show n - (i + 1) < n - i; omega, ?_⟩
  refine Zah (n := 2) rfl ?_ (by kernel_rfl) (by kernel_rfl)
  repeat (first | exact trivial | refine ⟨.inl rfl, ?_⟩ | refine ⟨.inr ⟨rfl, rfl⟩, ?_⟩ | refine ⟨.inr ⟨congrArg (Value.int .i64) (by first | omega | (dsimp only; omega)), rfl⟩, ?_⟩)
  refine Zl (vx := Zcs (l.getD i default)) (vy := Zcs (m.getD i default)) rfl rfl (.bool true) rfl rfl (Eq.trans (Zsl (l.getD i default) (m.getD i default)) (by rw [h3] <;> rfl)) ?_
  refine Zef (Zd8 [[], [], [0, 1], [0, 1, 2], [], [], [4, 5], [4, 5, 6], [0, 1, 2, 3, 4, 5, 6, 7]] (by kernel_rfl) (by kernel_rfl)) ?_
  refine Zb (Zy rfl (Ze (Zg (Zc (.bool false) (Za (Zb (Zr (Zbg (Z3 (Zdu (Zbg (Z3 (Zs ?_)))))))))))))
  rw [show Ze4 l m = false from by first | exact Zp4 (by omega) | exact Zv5 i (by omega) (by assumption)]
  exact Zk (v := .bool false) rfl rfl rfl (by kernel_rfl) rfl
  refine Zl (vx := Iv (i : Nat)) (vy := Iv (n : Nat)) rfl rfl (.bool false) rfl rfl (Zct (by omega)) ?_
  refine Za (Zb (Zt rfl (Zbp (Zau (Za2 (Za1 rfl (Zb (Ze (Zg (Zc (.bool true) (Za (Zb (Zr (Zs ?_))))))))))))))
  rw [show Ze4 l m = true from Z2d (by omega) (fun j hj => hR j (by omega))]
  exact Zk (v := .bool true) rfl rfl rfl (by kernel_rfl) rfl
end Go.Flat
