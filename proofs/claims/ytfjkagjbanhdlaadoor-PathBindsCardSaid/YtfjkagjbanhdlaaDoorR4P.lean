/- Walks. -/
import Derived.Test.YtfjkagjbanhdlaaDoorT1
import Derived.Test.YtfjkagjbanhdlaaDoorK1
import Derived.Test.YtfjkagjbanhdlaaDoorH10
set_option linter.unusedVariables false
set_option linter.unusedSimpArgs false
set_option maxRecDepth 20000
namespace Go.Flat
open Go.Proofs
variable {G : Glob}
def Zhd (h : Signed) : Entry := ⟨2, 0, 0, ⟨#[]⟩, h, (⟨0, 0, 0, 0, dz⟩ : Claim)⟩
def Zi5 (kk : Nat → BitVec 32) (master : D) : Signed → List PStep → Int
  | _, [] => 0
  | h, y :: l => if Zag kk master y = 0 then (if Zec y.item.entry (Zhd h) = true then Zi5 kk master y.head l else 130) else Zag kk master y
def Zcw (kk : Nat → BitVec 32) (master : D) : List PStep → Int
  | [] => 130
  | x :: l => if Zag kk master x = 0 then Zi5 kk master x.head l else Zag kk master x
section
variable {kk : Nat → BitVec 32} {m : D} {x y z : PStep}
theorem Zfg {l : List PStep} : Zcw kk m (x :: l) = if Zag kk m x = 0 then Zi5 kk m x.head l else Zag kk m x := rfl
theorem Zdo {h : Signed} {l : List PStep} : Zi5 kk m h (y :: l) = if Zag kk m y = 0 then (if Zec y.item.entry (Zhd h) = true then Zi5 kk m y.head l else 130) else Zag kk m y := by rw [Zi5]
theorem Zle {h : Signed} : Zi5 kk m h [] = 0 := by rw [Zi5]
theorem Zn1 : Zcw kk m [x] = Zag kk m x := by
 rw [Zfg]
 split
 ·rename_i h; rw [h, Zle]
 ·rfl
theorem Zmh (h : ¬ Zag kk m x = 0) : Zcw kk m [x, y] = Zag kk m x := if_neg h
theorem Zmp (h : Zag kk m x = 0) (h2 : ¬ Zag kk m y = 0) : Zcw kk m [x, y] = Zag kk m y := by rw [Zfg, if_pos h, Zdo, if_neg h2]
theorem Zkh (h : Zag kk m x = 0) (h2 : Zag kk m y = 0) (h3 : Zec y.item.entry (Zhd x.head) = false) : Zcw kk m [x, y] = 130 := by
 rw [Zfg, if_pos h, Zdo, if_pos h2, if_neg (by rw [h3]; decide)]
theorem Zl3 (h : Zag kk m x = 0) (h2 : Zag kk m y = 0) (h3 : Zec y.item.entry (Zhd x.head) = true) : Zcw kk m [x, y] = Zag kk m y := by
 rw [Zfg, if_pos h, Zdo, if_pos h2, if_pos h3, Zle, h2]
theorem Zlr (h : ¬ Zag kk m x = 0) : Zcw kk m [x, y, z] = Zag kk m x := if_neg h
theorem Zmy (h : Zag kk m x = 0) (h2 : ¬ Zag kk m y = 0) : Zcw kk m [x, y, z] = Zag kk m y := by rw [Zfg, if_pos h, Zdo, if_neg h2]
theorem Zl6 (h : Zag kk m x = 0) (h2 : Zag kk m y = 0) (h3 : Zec y.item.entry (Zhd x.head) = false) : Zcw kk m [x, y, z] = 130 := by
 rw [Zfg, if_pos h, Zdo, if_pos h2, if_neg (by rw [h3]; decide)]
theorem Zps (h : Zag kk m x = 0) (h2 : Zag kk m y = 0) (h3 : Zec y.item.entry (Zhd x.head) = true) : Zcw kk m [x, y, z] = Zi5 kk m y.head [z] := by
 rw [Zfg, if_pos h, Zdo, if_pos h2, if_pos h3]
theorem Zl0 (h : Zag kk m x = 0) (h2 : Zag kk m y = 0) (h3 : Zec y.item.entry (Zhd x.head) = true) (h4 : ¬ Zag kk m z = 0) : Zcw kk m [x, y, z] = Zag kk m z := by rw [Zps h h2 h3, Zdo, if_neg h4]
theorem Zly (h : Zag kk m x = 0) (h2 : Zag kk m y = 0) (h3 : Zec y.item.entry (Zhd x.head) = true) (h4 : Zag kk m z = 0) (h5 : Zec z.item.entry (Zhd y.head) = false) : Zcw kk m [x, y, z] = 130 := by
 rw [Zps h h2 h3, Zdo, if_pos h4, if_neg (by rw [h5]; decide)]
theorem Zmm (h : Zag kk m x = 0) (h2 : Zag kk m y = 0) (h3 : Zec y.item.entry (Zhd x.head) = true) (h4 : Zag kk m z = 0) (h5 : Zec z.item.entry (Zhd y.head) = true) : Zcw kk m [x, y, z] = Zag kk m z := by
 rw [Zps h h2 h3, Zdo, if_pos h4, if_pos h5, Zle, h4]
end
theorem Zt3  : Zae Tryd.prog G 29 [.slice none 0 0] [] (Iv 130) [] := by
 refine Zbj (fn := Tryd.f29) (nt := 11) rfl rfl rfl rfl ?_
 refine Zf (Zg (Zc rfl rfl (Iv 0) rfl (Za (Zb (Zf (Zf (Zg (Ze rfl rfl (.slice none 0 0) rfl ?_))))))))
 refine Zbl (p := .slice none 0 0) (v := Iv 0) rfl rfl rfl rfl ?_
 refine Zk (vx := Iv 0) (vy := Iv 0) rfl rfl (.bool true) rfl rfl (Zdl (by omega)) ?_
 refine Ze rfl rfl (.bool true) rfl (Zj rfl rfl (Zj rfl rfl (Zj rfl rfl (Zo rfl rfl (.bool true) rfl (Za (Zb (Zz rfl (Zf (Zg (Zc rfl rfl (Iv 130) rfl (Za (Zb (Zt (Z3 (Zu ?_)))))))))))))))
 exact Zm (v := Iv 130) rfl rfl rfl (by kernel_rfl) rfl
theorem Ztp (x1 : PStep) (n1 c1 : Nat) (hn1 : x1.proof.length = n1) (hc1 : n1 ≤ c1) (hb1 : n1 ≤ 1000) (c : Nat) (hc : 1 ≤ c) : Zae Tryd.prog G 29 [slv 0 0 1 c] [mxR 181 ([Iv x1.index] ++ (Zh x1.item ++ ([slv 1 0 n1 c1] ++ (Zd x1.head)))), dsR x1.proof] (Iv 0) [mxR 181 ([Iv x1.index] ++ (Zh x1.item ++ ([slv 1 0 n1 c1] ++ (Zd x1.head)))), dsR x1.proof] := by
 refine Zbj (fn := Tryd.f29) (nt := 11) rfl rfl rfl rfl ?_
 refine Zf (Zg (Zc rfl rfl (Iv 0) rfl (Za (Zb (Zf (Zf (Zg (Ze rfl rfl (slv 0 0 1 c) rfl ?_))))))))
 refine Zbl (p := slv 0 0 1 c) (v := Iv 1) rfl rfl rfl rfl ?_
 refine Zk (vx := Iv 1) (vy := Iv 0) rfl rfl (.bool false) rfl rfl (Zge (by omega)) ?_
 refine Ze rfl rfl (.bool false) rfl (Ze rfl rfl (slv 0 0 1 c) rfl ?_)
 refine Zbl (p := slv 0 0 1 c) (v := Iv 1) rfl rfl rfl rfl ?_
 refine Zk (vx := Iv 1) (vy := Iv 5) rfl rfl (.bool false) rfl rfl (Zej (by omega)) ?_
 refine Zo rfl rfl (.bool false) rfl (Za (Zb (Zv rfl (Z2 (Zb (Zf (Zg (Zc rfl rfl (Iv 0) rfl (Za (Zb (Zt (Zu ?_))))))))))))
 exact Zm (v := Iv 0) rfl rfl rfl (by kernel_rfl) rfl
theorem Z13 (x1 : PStep) (n1 c1 : Nat) (hn1 : x1.proof.length = n1) (hc1 : n1 ≤ c1) (hb1 : n1 ≤ 1000) (x2 : PStep) (n2 c2 : Nat) (hn2 : x2.proof.length = n2) (hc2 : n2 ≤ c2) (hb2 : n2 ≤ 1000) (c : Nat) (hc : 2 ≤ c) : Zae Tryd.prog G 29 [slv 0 0 2 c] [mxR 181 ([Iv x1.index] ++ (Zh x1.item ++ ([slv 1 0 n1 c1] ++ (Zd x1.head ++ ([Iv x2.index] ++ (Zh x2.item ++ ([slv 2 0 n2 c2] ++ (Zd x2.head)))))))), dsR x1.proof, dsR x2.proof] (Iv 0) [mxR 181 ([Iv x1.index] ++ (Zh x1.item ++ ([slv 1 0 n1 c1] ++ (Zd x1.head ++ ([Iv x2.index] ++ (Zh x2.item ++ ([slv 2 0 n2 c2] ++ (Zd x2.head)))))))), dsR x1.proof, dsR x2.proof] := by
 refine Zbj (fn := Tryd.f29) (nt := 11) rfl rfl rfl rfl ?_
 refine Zf (Zg (Zc rfl rfl (Iv 0) rfl (Za (Zb (Zf (Zf (Zg (Ze rfl rfl (slv 0 0 2 c) rfl ?_))))))))
 refine Zbl (p := slv 0 0 2 c) (v := Iv 2) rfl rfl rfl rfl ?_
 refine Zk (vx := Iv 2) (vy := Iv 0) rfl rfl (.bool false) rfl rfl (Zge (by omega)) ?_
 refine Ze rfl rfl (.bool false) rfl (Ze rfl rfl (slv 0 0 2 c) rfl ?_)
 refine Zbl (p := slv 0 0 2 c) (v := Iv 2) rfl rfl rfl rfl ?_
 refine Zk (vx := Iv 2) (vy := Iv 5) rfl rfl (.bool false) rfl rfl (Zej (by omega)) ?_
 refine Zo rfl rfl (.bool false) rfl (Za (Zb (Zv rfl (Z2 (Zb (Zf (Zg (Zc rfl rfl (Iv 0) rfl (Za (Zb (Zt (Zu ?_))))))))))))
 exact Zm (v := Iv 0) rfl rfl rfl (by kernel_rfl) rfl
theorem Zv1 (kk : Nat → BitVec 32) (hG : G 0 = some (Zac w32 64 kk)) (master : D)  : Zae Tryd.prog G 12 [dgV master, .slice none 0 0] [] (Iv 130) [] := by
 refine Zbj (fn := Tryd.f12) (nt := 48) rfl rfl rfl rfl ?_
 refine Zaj 1 (H' := [hole]) rfl ?_
 refine Zf (Zg ?_)
 refine Zbr (v := dgV master) (b := dgB master) (nid := 0) (H' := [dgB master]) rfl rfl rfl (by kernel_rfl) (by kernel_rfl) ?_
 refine Zc rfl rfl (Iv 0) rfl (Za (Zb ?_))
 refine Zsj (l := 0) rfl ?_
 refine Zf (Zg (Ze rfl rfl (.slice none 0 0) rfl ?_))
 refine Z4 (e := []) (nid := 0) (Zt3 (G := G)) (vals := [.slice none 0 0]) (v := Iv 130) (H' := [dgB master]) rfl rfl rfl rfl rfl rfl rfl ⟨⟨rfl, trivial⟩, trivial, rfl, rfl, rfl⟩ rfl (by kernel_rfl) ?_
 refine Zc rfl rfl (Iv 130) rfl (Za (Zb (Zf (Zr8 (Zb (Zf (Zf (Zg (Ze rfl rfl (.slice none 0 0) rfl ?_)))))))))
 refine Zbl (p := .slice none 0 0) (v := Iv 0) rfl rfl rfl rfl ?_
 refine Ze rfl rfl (Iv 0) rfl (Za (Zb (Z9 ?_)))
 refine Zlq 1 ?_
 refine Zfy (Zf (Zg ?_))
 refine Zk (vx := Iv 0) (vy := Iv 0) rfl rfl (.bool false) rfl rfl (Zcj (by omega)) ?_
 refine Za (Zb (Zf (Zv rfl (Zbh (Zar (Za0 (Zaw rfl (Zb (Zf (Zg (Ze rfl rfl (Iv 130) rfl (Zc rfl rfl (Iv 130) rfl (Za (Zb (Zt (Zin (Zu ?_)))))))))))))))))
 exact Zm (v := Iv 130) rfl rfl rfl (by kernel_rfl) rfl
theorem Ziu (kk : Nat → BitVec 32) (hG : G 0 = some (Zac w32 64 kk)) (master : D) (x1 : PStep) (n1 c1 : Nat) (hn1 : x1.proof.length = n1) (hc1 : n1 ≤ c1) (hb1 : n1 ≤ 1000) (hx1 : (-9223372036854775808 ≤ x1.index ∧ x1.index ≤ 9223372036854775807) ∧ -9223372036854775808 ≤ x1.head.head.size ∧ x1.head.head.size ≤ 9223372036854775807) (c : Nat) (hc : 1 ≤ c) : Zae Tryd.prog G 12 [dgV master, slv 0 0 1 c] [mxR 181 ([Iv x1.index] ++ (Zh x1.item ++ ([slv 1 0 n1 c1] ++ (Zd x1.head)))), dsR x1.proof] (Iv (Zcw kk master [x1])) [mxR 181 ([Iv x1.index] ++ (Zh x1.item ++ ([slv 1 0 n1 c1] ++ (Zd x1.head)))), dsR x1.proof] := by
  refine Zbj (fn := Tryd.f12) (nt := 48) rfl rfl rfl rfl ?_
  refine Zaj 2 (H' := [mxR 181 ([Iv x1.index] ++ (Zh x1.item ++ ([slv 1 0 n1 c1] ++ (Zd x1.head)))), dsR x1.proof, hole, hole]) rfl ?_
  refine Zf (Zg ?_)
  refine Zbr (v := dgV master) (b := dgB master) (nid := 2) (H' := [mxR 181 ([Iv x1.index] ++ (Zh x1.item ++ ([slv 1 0 n1 c1] ++ (Zd x1.head)))), dsR x1.proof, dgB master, hole]) rfl rfl rfl (by kernel_rfl) (by kernel_rfl) ?_
  refine Zc rfl rfl (Iv 0) rfl (Za (Zb ?_))
  refine Zsj (l := 0) rfl ?_
  refine Zf (Zg (Ze rfl rfl (slv 0 0 1 c) rfl ?_))
  refine Z4 (e := [some (0, 0), some (1, 0)]) (nid := 0) (Ztp (G := G) x1 n1 c1 hn1 (by omega) (by omega) c (by omega)) (vals := [slv 0 0 1 c]) (v := Iv 0) (H' := [mxR 181 ([Iv x1.index] ++ (Zh x1.item ++ ([slv 1 0 n1 c1] ++ (Zd x1.head)))), dsR x1.proof, dgB master, hole]) rfl rfl rfl rfl rfl rfl rfl ⟨⟨⟨rfl, rfl, rfl, by omega, by omega⟩, trivial⟩, ⟨(Zcg rfl rfl (Nat.le_of_eq (by kernel_rfl)) (by kernel_rfl)), (Zer rfl), trivial⟩, rfl, rfl, rfl⟩ rfl (by kernel_rfl) ?_
  refine Zc rfl rfl (Iv 0) rfl (Za (Zb (Zf (Zr8 (Zb (Zf (Zf (Zg (Ze rfl rfl (slv 0 0 1 c) rfl ?_)))))))))
  refine Zbl (p := slv 0 0 1 c) (v := Iv 1) rfl rfl rfl rfl ?_
  refine Ze rfl rfl (Iv 0) rfl (Za (Zb (Z9 ?_)))
  refine Zlq 2 ?_
  refine Zfy (Zf (Zg ?_))
  refine Zk (vx := Iv 0) (vy := Iv 1) rfl rfl (.bool true) rfl rfl (Zcq (by omega)) ?_
  refine Za (Zb (Zf (Zz rfl (Z2 (Zb (Zf (Z9 (Zf (Zg (Ze rfl rfl (Iv 0) rfl ?_))))))))))
  refine Zbf (b := 0) (o := 0) (j := 0) (m := 1) (c := c) (sz := 181) (i := 0) (k := .i64) rfl rfl rfl rfl rfl (by omega) (by omega) (by omega) ?_
  refine Zl (p := pt 0 0) (v := mxV ([Iv x1.index] ++ (Zh x1.item ++ ([slv 1 0 n1 c1] ++ (Zd x1.head))))) rfl rfl rfl (by kernel_rfl) ?_
  refine Z7 (b := mxB 181 ([Iv 0] ++ (Zh (⟨0, (⟨0, 0, 0, ⟨#[]⟩, (⟨(⟨0, 0, 0, dz, 0⟩ : Head), 0, dz⟩ : Signed), (⟨0, 0, 0, 0, dz⟩ : Claim)⟩ : Entry)⟩ : Item) ++ ([.slice none 0 0] ++ (Zd (⟨(⟨0, 0, 0, dz, 0⟩ : Head), 0, dz⟩ : Signed)))))) (nid := 3) (H' := [mxR 181 ([Iv x1.index] ++ (Zh x1.item ++ ([slv 1 0 n1 c1] ++ (Zd x1.head)))), dsR x1.proof, dgB master, mxB 181 ([Iv 0] ++ (Zh (⟨0, (⟨0, 0, 0, ⟨#[]⟩, (⟨(⟨0, 0, 0, dz, 0⟩ : Head), 0, dz⟩ : Signed), (⟨0, 0, 0, 0, dz⟩ : Claim)⟩ : Entry)⟩ : Item) ++ ([.slice none 0 0] ++ (Zd (⟨(⟨0, 0, 0, dz, 0⟩ : Head), 0, dz⟩ : Signed)))))]) rfl rfl (by kernel_rfl) (by kernel_rfl) ?_
  refine Zc rfl rfl (Iv 0) rfl ?_
  refine Zx (p := pt 3 0) (v := mxV ([Iv x1.index] ++ (Zh x1.item ++ ([slv 1 0 n1 c1] ++ (Zd x1.head))))) (b := 3) (blk := mxB 181 ([Iv x1.index] ++ (Zh x1.item ++ ([slv 1 0 n1 c1] ++ (Zd x1.head))))) (H' := [mxR 181 ([Iv x1.index] ++ (Zh x1.item ++ ([slv 1 0 n1 c1] ++ (Zd x1.head)))), dsR x1.proof, dgB master, mxB 181 ([Iv x1.index] ++ (Zh x1.item ++ ([slv 1 0 n1 c1] ++ (Zd x1.head))))]) rfl rfl rfl (by kernel_rfl) (by kernel_rfl) ?_
  refine Za (Zb (Z9 (Zf (Zg (Ze rfl rfl (Iv 0) rfl ?_)))))
  refine Zk (vx := Iv 0) (vy := Iv 0) rfl rfl (.bool false) rfl rfl (Zc5 (by omega)) ?_
  refine Zc rfl rfl (.bool false) rfl (Za (Zb (Zv rfl (Zf (Zg (Ze rfl rfl (Iv 0) rfl ?_))))))
  refine Zk (vx := Iv 0) (vy := Iv 0) rfl rfl (.bool false) rfl rfl (Zej (by omega)) ?_
  refine Zc rfl rfl (.bool false) rfl (Za (Zb (Zv rfl (Zg ?_))))
  refine Zl (p := pt 2 0) (v := dgV master) rfl rfl rfl (by kernel_rfl) ?_
  refine Zl (p := pt 3 0) (v := mxV ([Iv x1.index] ++ (Zh x1.item ++ ([slv 1 0 n1 c1] ++ (Zd x1.head))))) rfl rfl rfl (by kernel_rfl) ?_
  refine Z4 (e := [some (1, 0)]) (nid := 0) (Zoz (G := G) kk hG master x1 n1 c1 hn1 (by omega) (by omega) (by first | omega | (dsimp only; omega))) (vals := [dgV master, mxV ([Iv x1.index] ++ (Zh x1.item ++ ([slv 1 0 n1 c1] ++ (Zd x1.head))))]) (v := Iv (Zag kk master x1)) (H' := [mxR 181 ([Iv x1.index] ++ (Zh x1.item ++ ([slv 1 0 n1 c1] ++ (Zd x1.head)))), dsR x1.proof, dgB master, mxB 181 ([Iv x1.index] ++ (Zh x1.item ++ ([slv 1 0 n1 c1] ++ (Zd x1.head))))]) rfl rfl rfl rfl rfl rfl rfl ⟨⟨rfl, (Zhr (by kernel_rfl) (Zbb ⟨⟨rfl, rfl⟩, trivial⟩ (Zbb (Zb1 (by kernel_rfl)) (Zbb ⟨⟨rfl, rfl, rfl, by first | omega | exact Nat.le_refl _, by first | omega | exact Nat.le_refl _⟩, trivial⟩ (Zb1 (by kernel_rfl)))))), trivial⟩, ⟨(Zer rfl), trivial⟩, rfl, rfl, rfl⟩ rfl (by kernel_rfl) ?_
  refine Zc rfl rfl (Iv (Zag kk master x1)) rfl (Za (Zab (Zab (Zb (Zg ?_)))))
  refine Zk (vx := Iv 0) (vy := Iv 1) rfl rfl (Iv 1) rfl rfl (Zaz (by omega) (by omega) (by omega)) ?_
  refine Ze rfl rfl (Iv 1) rfl (Za (Zjc (Zfy (Zf (Zg ?_)))))
  refine Zk (vx := Iv 1) (vy := Iv 1) rfl rfl (.bool false) rfl rfl (Zcj (by omega)) ?_
  refine Za (Zb (Zf (Zv rfl (Zbh (Zar (Za0 (Zaw rfl (Zb (Zf (Zg (Ze rfl rfl (Iv (Zag kk master x1)) rfl (Zc rfl rfl (Iv (Zag kk master x1)) rfl (Za (Zb (Zt (Zin (Zu ?_)))))))))))))))))
  rw [show Zcw kk master [x1] = (Zag kk master x1) from by first | exact Zn1 | exact Zmh (by omega) | exact Zmp (by omega) (by omega) | exact Zkh (by omega) (by omega) (by assumption) | exact Zl3 (by omega) (by omega) (by assumption) | exact Zlr (by omega) | exact Zmy (by omega) (by omega) | exact Zl6 (by omega) (by omega) (by assumption) | exact Zl0 (by omega) (by omega) (by assumption) (by omega) | exact Zly (by omega) (by omega) (by assumption) (by omega) (by assumption) | exact Zmm (by omega) (by omega) (by assumption) (by omega) (by assumption)]
  exact Zm (v := Iv (Zag kk master x1)) rfl rfl rfl (by kernel_rfl) rfl
theorem Zwo (kk : Nat → BitVec 32) (hG : G 0 = some (Zac w32 64 kk)) (master : D) (x1 : PStep) (n1 c1 : Nat) (hn1 : x1.proof.length = n1) (hc1 : n1 ≤ c1) (hb1 : n1 ≤ 1000) (hx1 : (-9223372036854775808 ≤ x1.index ∧ x1.index ≤ 9223372036854775807) ∧ -9223372036854775808 ≤ x1.head.head.size ∧ x1.head.head.size ≤ 9223372036854775807) (x2 : PStep) (n2 c2 : Nat) (hn2 : x2.proof.length = n2) (hc2 : n2 ≤ c2) (hb2 : n2 ≤ 1000) (hx2 : (-9223372036854775808 ≤ x2.index ∧ x2.index ≤ 9223372036854775807) ∧ -9223372036854775808 ≤ x2.head.head.size ∧ x2.head.head.size ≤ 9223372036854775807) (c : Nat) (hc : 2 ≤ c) : Zae Tryd.prog G 12 [dgV master, slv 0 0 2 c] [mxR 181 ([Iv x1.index] ++ (Zh x1.item ++ ([slv 1 0 n1 c1] ++ (Zd x1.head ++ ([Iv x2.index] ++ (Zh x2.item ++ ([slv 2 0 n2 c2] ++ (Zd x2.head)))))))), dsR x1.proof, dsR x2.proof] (Iv (Zcw kk master [x1, x2])) [mxR 181 ([Iv x1.index] ++ (Zh x1.item ++ ([slv 1 0 n1 c1] ++ (Zd x1.head ++ ([Iv x2.index] ++ (Zh x2.item ++ ([slv 2 0 n2 c2] ++ (Zd x2.head)))))))), dsR x1.proof, dsR x2.proof] := by
  refine Zbj (fn := Tryd.f12) (nt := 48) rfl rfl rfl rfl ?_
  refine Zaj 4 (H' := [mxR 181 ([Iv x1.index] ++ (Zh x1.item ++ ([slv 1 0 n1 c1] ++ (Zd x1.head ++ ([Iv x2.index] ++ (Zh x2.item ++ ([slv 2 0 n2 c2] ++ (Zd x2.head)))))))), dsR x1.proof, dsR x2.proof, hole, hole, hole, hole]) rfl ?_
  refine Zf (Zg ?_)
  refine Zbr (v := dgV master) (b := dgB master) (nid := 3) (H' := [mxR 181 ([Iv x1.index] ++ (Zh x1.item ++ ([slv 1 0 n1 c1] ++ (Zd x1.head ++ ([Iv x2.index] ++ (Zh x2.item ++ ([slv 2 0 n2 c2] ++ (Zd x2.head)))))))), dsR x1.proof, dsR x2.proof, dgB master, hole, hole, hole]) rfl rfl rfl (by kernel_rfl) (by kernel_rfl) ?_
  refine Zc rfl rfl (Iv 0) rfl (Za (Zb ?_))
  refine Zsj (l := 0) rfl ?_
  refine Zf (Zg (Ze rfl rfl (slv 0 0 2 c) rfl ?_))
  refine Z4 (e := [some (0, 0), some (1, 0), some (2, 0)]) (nid := 0) (Z13 (G := G) x1 n1 c1 hn1 (by omega) (by omega) x2 n2 c2 hn2 (by omega) (by omega) c (by omega)) (vals := [slv 0 0 2 c]) (v := Iv 0) (H' := [mxR 181 ([Iv x1.index] ++ (Zh x1.item ++ ([slv 1 0 n1 c1] ++ (Zd x1.head ++ ([Iv x2.index] ++ (Zh x2.item ++ ([slv 2 0 n2 c2] ++ (Zd x2.head)))))))), dsR x1.proof, dsR x2.proof, dgB master, hole, hole, hole]) rfl rfl rfl rfl rfl rfl rfl ⟨⟨⟨rfl, rfl, rfl, by omega, by omega⟩, trivial⟩, ⟨(Zcg rfl rfl (Nat.le_of_eq (by kernel_rfl)) (by kernel_rfl)), (Zer rfl), (Zer rfl), trivial⟩, rfl, rfl, rfl⟩ rfl (by kernel_rfl) ?_
  refine Zc rfl rfl (Iv 0) rfl (Za (Zb (Zf (Zr8 (Zb (Zf (Zf (Zg (Ze rfl rfl (slv 0 0 2 c) rfl ?_)))))))))
  refine Zbl (p := slv 0 0 2 c) (v := Iv 2) rfl rfl rfl rfl ?_
  refine Ze rfl rfl (Iv 0) rfl (Za (Zb (Z9 ?_)))
  refine Zlq 3 ?_
  refine Zfy (Zf (Zg ?_))
  refine Zk (vx := Iv 0) (vy := Iv 2) rfl rfl (.bool true) rfl rfl (Zcq (by omega)) ?_
  refine Za (Zb (Zf (Zz rfl (Z2 (Zb (Zf (Z9 (Zf (Zg (Ze rfl rfl (Iv 0) rfl ?_))))))))))
  refine Zbf (b := 0) (o := 0) (j := 0) (m := 2) (c := c) (sz := 181) (i := 0) (k := .i64) rfl rfl rfl rfl rfl (by omega) (by omega) (by omega) ?_
  refine Zl (p := pt 0 0) (v := mxV ([Iv x1.index] ++ (Zh x1.item ++ ([slv 1 0 n1 c1] ++ (Zd x1.head))))) rfl rfl rfl (by kernel_rfl) ?_
  refine Z7 (b := mxB 181 ([Iv 0] ++ (Zh (⟨0, (⟨0, 0, 0, ⟨#[]⟩, (⟨(⟨0, 0, 0, dz, 0⟩ : Head), 0, dz⟩ : Signed), (⟨0, 0, 0, 0, dz⟩ : Claim)⟩ : Entry)⟩ : Item) ++ ([.slice none 0 0] ++ (Zd (⟨(⟨0, 0, 0, dz, 0⟩ : Head), 0, dz⟩ : Signed)))))) (nid := 4) (H' := [mxR 181 ([Iv x1.index] ++ (Zh x1.item ++ ([slv 1 0 n1 c1] ++ (Zd x1.head ++ ([Iv x2.index] ++ (Zh x2.item ++ ([slv 2 0 n2 c2] ++ (Zd x2.head)))))))), dsR x1.proof, dsR x2.proof, dgB master, mxB 181 ([Iv 0] ++ (Zh (⟨0, (⟨0, 0, 0, ⟨#[]⟩, (⟨(⟨0, 0, 0, dz, 0⟩ : Head), 0, dz⟩ : Signed), (⟨0, 0, 0, 0, dz⟩ : Claim)⟩ : Entry)⟩ : Item) ++ ([.slice none 0 0] ++ (Zd (⟨(⟨0, 0, 0, dz, 0⟩ : Head), 0, dz⟩ : Signed))))), hole, hole]) rfl rfl (by kernel_rfl) (by kernel_rfl) ?_
  refine Zc rfl rfl (Iv 0) rfl ?_
  refine Zx (p := pt 4 0) (v := mxV ([Iv x1.index] ++ (Zh x1.item ++ ([slv 1 0 n1 c1] ++ (Zd x1.head))))) (b := 4) (blk := mxB 181 ([Iv x1.index] ++ (Zh x1.item ++ ([slv 1 0 n1 c1] ++ (Zd x1.head))))) (H' := [mxR 181 ([Iv x1.index] ++ (Zh x1.item ++ ([slv 1 0 n1 c1] ++ (Zd x1.head ++ ([Iv x2.index] ++ (Zh x2.item ++ ([slv 2 0 n2 c2] ++ (Zd x2.head)))))))), dsR x1.proof, dsR x2.proof, dgB master, mxB 181 ([Iv x1.index] ++ (Zh x1.item ++ ([slv 1 0 n1 c1] ++ (Zd x1.head)))), hole, hole]) rfl rfl rfl (by kernel_rfl) (by kernel_rfl) ?_
  refine Za (Zb (Z9 (Zf (Zg (Ze rfl rfl (Iv 0) rfl ?_)))))
  refine Zk (vx := Iv 0) (vy := Iv 0) rfl rfl (.bool false) rfl rfl (Zc5 (by omega)) ?_
  refine Zc rfl rfl (.bool false) rfl (Za (Zb (Zv rfl (Zf (Zg (Ze rfl rfl (Iv 0) rfl ?_))))))
  refine Zk (vx := Iv 0) (vy := Iv 0) rfl rfl (.bool false) rfl rfl (Zej (by omega)) ?_
  refine Zc rfl rfl (.bool false) rfl (Za (Zb (Zv rfl (Zg ?_))))
  refine Zl (p := pt 3 0) (v := dgV master) rfl rfl rfl (by kernel_rfl) ?_
  refine Zl (p := pt 4 0) (v := mxV ([Iv x1.index] ++ (Zh x1.item ++ ([slv 1 0 n1 c1] ++ (Zd x1.head))))) rfl rfl rfl (by kernel_rfl) ?_
  refine Z4 (e := [some (1, 0)]) (nid := 0) (Zoz (G := G) kk hG master x1 n1 c1 hn1 (by omega) (by omega) (by first | omega | (dsimp only; omega))) (vals := [dgV master, mxV ([Iv x1.index] ++ (Zh x1.item ++ ([slv 1 0 n1 c1] ++ (Zd x1.head))))]) (v := Iv (Zag kk master x1)) (H' := [mxR 181 ([Iv x1.index] ++ (Zh x1.item ++ ([slv 1 0 n1 c1] ++ (Zd x1.head ++ ([Iv x2.index] ++ (Zh x2.item ++ ([slv 2 0 n2 c2] ++ (Zd x2.head)))))))), dsR x1.proof, dsR x2.proof, dgB master, mxB 181 ([Iv x1.index] ++ (Zh x1.item ++ ([slv 1 0 n1 c1] ++ (Zd x1.head)))), hole, hole]) rfl rfl rfl rfl rfl rfl rfl ⟨⟨rfl, (Zhr (by kernel_rfl) (Zbb ⟨⟨rfl, rfl⟩, trivial⟩ (Zbb (Zb1 (by kernel_rfl)) (Zbb ⟨⟨rfl, rfl, rfl, by first | omega | exact Nat.le_refl _, by first | omega | exact Nat.le_refl _⟩, trivial⟩ (Zb1 (by kernel_rfl)))))), trivial⟩, ⟨(Zer rfl), trivial⟩, rfl, rfl, rfl⟩ rfl (by kernel_rfl) ?_
  refine Zc rfl rfl (Iv (Zag kk master x1)) rfl (Za (Zab (Zab (Zb (Zg ?_)))))
  refine Zk (vx := Iv 0) (vy := Iv 1) rfl rfl (Iv 1) rfl rfl (Zaz (by omega) (by omega) (by omega)) ?_
  refine Ze rfl rfl (Iv 1) rfl (Za (Zjc (Zfy (Zf (Zg ?_)))))
  refine Zk (vx := Iv 1) (vy := Iv 2) rfl rfl (.bool true) rfl rfl (Zcq (by omega)) ?_
  refine Za (Zb (Zf (Zz rfl (Z2 (Zb (Zf (Z9 (Zf (Zg (Ze rfl rfl (Iv 1) rfl ?_))))))))))
  refine Zbf (b := 0) (o := 0) (j := 181) (m := 2) (c := c) (sz := 181) (i := 1) (k := .i64) rfl rfl rfl rfl rfl (by omega) (by omega) (by omega) ?_
  refine Zl (p := pt 0 181) (v := mxV ([Iv x2.index] ++ (Zh x2.item ++ ([slv 2 0 n2 c2] ++ (Zd x2.head))))) rfl rfl rfl (by kernel_rfl) ?_
  refine Z7 (b := mxB 181 ([Iv 0] ++ (Zh (⟨0, (⟨0, 0, 0, ⟨#[]⟩, (⟨(⟨0, 0, 0, dz, 0⟩ : Head), 0, dz⟩ : Signed), (⟨0, 0, 0, 0, dz⟩ : Claim)⟩ : Entry)⟩ : Item) ++ ([.slice none 0 0] ++ (Zd (⟨(⟨0, 0, 0, dz, 0⟩ : Head), 0, dz⟩ : Signed)))))) (nid := 5) (H' := [mxR 181 ([Iv x1.index] ++ (Zh x1.item ++ ([slv 1 0 n1 c1] ++ (Zd x1.head ++ ([Iv x2.index] ++ (Zh x2.item ++ ([slv 2 0 n2 c2] ++ (Zd x2.head)))))))), dsR x1.proof, dsR x2.proof, dgB master, mxB 181 ([Iv x1.index] ++ (Zh x1.item ++ ([slv 1 0 n1 c1] ++ (Zd x1.head)))), mxB 181 ([Iv 0] ++ (Zh (⟨0, (⟨0, 0, 0, ⟨#[]⟩, (⟨(⟨0, 0, 0, dz, 0⟩ : Head), 0, dz⟩ : Signed), (⟨0, 0, 0, 0, dz⟩ : Claim)⟩ : Entry)⟩ : Item) ++ ([.slice none 0 0] ++ (Zd (⟨(⟨0, 0, 0, dz, 0⟩ : Head), 0, dz⟩ : Signed))))), hole]) rfl rfl (by kernel_rfl) (by kernel_rfl) ?_
  refine Zc rfl rfl (Iv 1) rfl ?_
  refine Zx (p := pt 5 0) (v := mxV ([Iv x2.index] ++ (Zh x2.item ++ ([slv 2 0 n2 c2] ++ (Zd x2.head))))) (b := 5) (blk := mxB 181 ([Iv x2.index] ++ (Zh x2.item ++ ([slv 2 0 n2 c2] ++ (Zd x2.head))))) (H' := [mxR 181 ([Iv x1.index] ++ (Zh x1.item ++ ([slv 1 0 n1 c1] ++ (Zd x1.head ++ ([Iv x2.index] ++ (Zh x2.item ++ ([slv 2 0 n2 c2] ++ (Zd x2.head)))))))), dsR x1.proof, dsR x2.proof, dgB master, mxB 181 ([Iv x1.index] ++ (Zh x1.item ++ ([slv 1 0 n1 c1] ++ (Zd x1.head)))), mxB 181 ([Iv x2.index] ++ (Zh x2.item ++ ([slv 2 0 n2 c2] ++ (Zd x2.head)))), hole]) rfl rfl rfl (by kernel_rfl) (by kernel_rfl) ?_
  refine Za (Zb (Z9 (Zf (Zg (Ze rfl rfl (Iv (Zag kk master x1)) rfl ?_)))))
  by_cases h1 : (Zag kk master x1) ≠ 0
  refine Zk (vx := Iv (Zag kk master x1)) (vy := Iv 0) rfl rfl (.bool true) rfl rfl (Zdg (by omega)) ?_
  refine Zc rfl rfl (.bool true) rfl (Za (Zb (Zz rfl (Zbh (Ziq rfl (Ziq rfl (Zar (Za0 (Zaw rfl (Zb (Zf (Zg (Ze rfl rfl (Iv (Zag kk master x1)) rfl (Zc rfl rfl (Iv (Zag kk master x1)) rfl (Za (Zb (Zt (Zin (Zu ?_)))))))))))))))))))
  rw [show Zcw kk master [x1, x2] = (Zag kk master x1) from by first | exact Zn1 | exact Zmh (by omega) | exact Zmp (by omega) (by omega) | exact Zkh (by omega) (by omega) (by assumption) | exact Zl3 (by omega) (by omega) (by assumption) | exact Zlr (by omega) | exact Zmy (by omega) (by omega) | exact Zl6 (by omega) (by omega) (by assumption) | exact Zl0 (by omega) (by omega) (by assumption) (by omega) | exact Zly (by omega) (by omega) (by assumption) (by omega) (by assumption) | exact Zmm (by omega) (by omega) (by assumption) (by omega) (by assumption)]
  exact Zm (v := Iv (Zag kk master x1)) rfl rfl rfl (by kernel_rfl) rfl
  refine Zk (vx := Iv (Zag kk master x1)) (vy := Iv 0) rfl rfl (.bool false) rfl rfl (Zc5 (by omega)) ?_
  refine Zc rfl rfl (.bool false) rfl (Za (Zb (Zv rfl (Zf (Zg (Ze rfl rfl (Iv 1) rfl ?_))))))
  refine Zk (vx := Iv 1) (vy := Iv 0) rfl rfl (.bool true) rfl rfl (Zet (by omega)) ?_
  refine Zc rfl rfl (.bool true) rfl (Za (Zb (Zz rfl (Zf (Zg (Ze rfl rfl (slv 0 0 2 c) rfl (Ze rfl rfl (Iv 1) rfl ?_)))))))
  refine Zk (vx := Iv 1) (vy := Iv 1) rfl rfl (Iv 0) rfl rfl (Zde (by omega) (by omega) (by omega)) ?_
  refine Zbf (b := 0) (o := 0) (j := 0) (m := 2) (c := c) (sz := 181) (i := 0) (k := .i64) rfl rfl rfl rfl rfl (by omega) (by omega) (by omega) ?_
  refine Zi (b := 0) (o := 0) (n := 112) (o' := 0 + 112) rfl rfl rfl rfl (by omega) ?_
  refine Zl (p := pt 0 (0 + 112)) (v := Z0 x1.head) rfl rfl rfl (by kernel_rfl) ?_
  refine Zbn (vs := [(0, Iv 2), (4, Z0 x1.head)]) (v := Zc7 (⟨2, 0, 0, ⟨#[]⟩, x1.head, (⟨0, 0, 0, 0, dz⟩ : Claim)⟩ : Entry)) rfl rfl rfl (by kernel_rfl) ?_
  refine Z7 (b := bxB 109 (Zc2 (⟨0, 0, 0, ⟨#[]⟩, (⟨(⟨0, 0, 0, dz, 0⟩ : Head), 0, dz⟩ : Signed), (⟨0, 0, 0, 0, dz⟩ : Claim)⟩ : Entry))) (nid := 6) (H' := [mxR 181 ([Iv x1.index] ++ (Zh x1.item ++ ([slv 1 0 n1 c1] ++ (Zd x1.head ++ ([Iv x2.index] ++ (Zh x2.item ++ ([slv 2 0 n2 c2] ++ (Zd x2.head)))))))), dsR x1.proof, dsR x2.proof, dgB master, mxB 181 ([Iv x1.index] ++ (Zh x1.item ++ ([slv 1 0 n1 c1] ++ (Zd x1.head)))), mxB 181 ([Iv x2.index] ++ (Zh x2.item ++ ([slv 2 0 n2 c2] ++ (Zd x2.head)))), bxB 109 (Zc2 (⟨0, 0, 0, ⟨#[]⟩, (⟨(⟨0, 0, 0, dz, 0⟩ : Head), 0, dz⟩ : Signed), (⟨0, 0, 0, 0, dz⟩ : Claim)⟩ : Entry))]) rfl rfl (by kernel_rfl) (by kernel_rfl) ?_
  refine Zx (p := pt 6 0) (v := Zc7 (⟨2, 0, 0, ⟨#[]⟩, x1.head, (⟨0, 0, 0, 0, dz⟩ : Claim)⟩ : Entry)) (b := 6) (blk := bxB 109 (Zc2 (⟨2, 0, 0, ⟨#[]⟩, x1.head, (⟨0, 0, 0, 0, dz⟩ : Claim)⟩ : Entry))) (H' := [mxR 181 ([Iv x1.index] ++ (Zh x1.item ++ ([slv 1 0 n1 c1] ++ (Zd x1.head ++ ([Iv x2.index] ++ (Zh x2.item ++ ([slv 2 0 n2 c2] ++ (Zd x2.head)))))))), dsR x1.proof, dsR x2.proof, dgB master, mxB 181 ([Iv x1.index] ++ (Zh x1.item ++ ([slv 1 0 n1 c1] ++ (Zd x1.head)))), mxB 181 ([Iv x2.index] ++ (Zh x2.item ++ ([slv 2 0 n2 c2] ++ (Zd x2.head)))), bxB 109 (Zc2 (⟨2, 0, 0, ⟨#[]⟩, x1.head, (⟨0, 0, 0, 0, dz⟩ : Claim)⟩ : Entry))]) rfl rfl rfl (by kernel_rfl) (by kernel_rfl) ?_
  refine Za (Zb (Zf (Zg ?_)))
  refine Zl (p := pt 3 0) (v := dgV master) rfl rfl rfl (by kernel_rfl) ?_
  refine Zl (p := pt 5 0) (v := mxV ([Iv x2.index] ++ (Zh x2.item ++ ([slv 2 0 n2 c2] ++ (Zd x2.head))))) rfl rfl rfl (by kernel_rfl) ?_
  refine Z4 (e := [some (2, 0)]) (nid := 0) (Zoz (G := G) kk hG master x2 n2 c2 hn2 (by omega) (by omega) (by first | omega | (dsimp only; omega))) (vals := [dgV master, mxV ([Iv x2.index] ++ (Zh x2.item ++ ([slv 2 0 n2 c2] ++ (Zd x2.head))))]) (v := Iv (Zag kk master x2)) (H' := [mxR 181 ([Iv x1.index] ++ (Zh x1.item ++ ([slv 1 0 n1 c1] ++ (Zd x1.head ++ ([Iv x2.index] ++ (Zh x2.item ++ ([slv 2 0 n2 c2] ++ (Zd x2.head)))))))), dsR x1.proof, dsR x2.proof, dgB master, mxB 181 ([Iv x1.index] ++ (Zh x1.item ++ ([slv 1 0 n1 c1] ++ (Zd x1.head)))), mxB 181 ([Iv x2.index] ++ (Zh x2.item ++ ([slv 2 0 n2 c2] ++ (Zd x2.head)))), bxB 109 (Zc2 (⟨2, 0, 0, ⟨#[]⟩, x1.head, (⟨0, 0, 0, 0, dz⟩ : Claim)⟩ : Entry))]) rfl rfl rfl rfl rfl rfl rfl ⟨⟨rfl, (Zhr (by kernel_rfl) (Zbb ⟨⟨rfl, rfl⟩, trivial⟩ (Zbb (Zb1 (by kernel_rfl)) (Zbb ⟨⟨rfl, rfl, rfl, by first | omega | exact Nat.le_refl _, by first | omega | exact Nat.le_refl _⟩, trivial⟩ (Zb1 (by kernel_rfl)))))), trivial⟩, ⟨(Zer rfl), trivial⟩, rfl, rfl, rfl⟩ rfl (by kernel_rfl) ?_
  refine Zc rfl rfl (Iv (Zag kk master x2)) rfl (Za (Zb (Zf (Zg (Ze rfl rfl (Iv (Zag kk master x2)) rfl ?_)))))
  by_cases h2 : (Zag kk master x2) = 0
  refine Zk (vx := Iv (Zag kk master x2)) (vy := Iv 0) rfl rfl (.bool true) rfl rfl (Zdl (by omega)) ?_
  refine Ze rfl rfl (.bool true) rfl ?_
  refine Zi (b := 5) (o := 0) (n := 1) (o' := 1) rfl rfl rfl rfl rfl ?_
  refine Zi (b := 5) (o := 1) (n := 1) (o' := 2) rfl rfl rfl rfl rfl ?_
  refine Zl (p := pt 5 2) (v := Zc7 x2.item.entry) rfl rfl rfl (by kernel_rfl) ?_
  refine Zl (p := pt 6 0) (v := Zc7 (⟨2, 0, 0, ⟨#[]⟩, x1.head, (⟨0, 0, 0, 0, dz⟩ : Claim)⟩ : Entry)) rfl rfl rfl (by kernel_rfl) ?_
  rcases Bool.eq_false_or_eq_true (Zec x2.item.entry (⟨2, 0, 0, ⟨#[]⟩, x1.head, (⟨0, 0, 0, 0, dz⟩ : Claim)⟩ : Entry)) with h3 | h3
  refine Zk (vx := Zc7 x2.item.entry) (vy := Zc7 (⟨2, 0, 0, ⟨#[]⟩, x1.head, (⟨0, 0, 0, 0, dz⟩ : Claim)⟩ : Entry)) rfl rfl (.bool false) rfl rfl (Eq.trans (Zri x2.item.entry (⟨2, 0, 0, ⟨#[]⟩, x1.head, (⟨0, 0, 0, 0, dz⟩ : Claim)⟩ : Entry)) (by rw [h3] <;> rfl)) ?_
  refine Zo rfl rfl (.bool false) rfl (Za (Zb (Zv rfl (Z2 (Zab (Zab (Zb (Zg ?_))))))))
  refine Zk (vx := Iv 1) (vy := Iv 1) rfl rfl (Iv 2) rfl rfl (Zaz (by omega) (by omega) (by omega)) ?_
  refine Ze rfl rfl (Iv 2) rfl (Za (Zjc (Zfy (Zf (Zg ?_)))))
  refine Zk (vx := Iv 2) (vy := Iv 2) rfl rfl (.bool false) rfl rfl (Zcj (by omega)) ?_
  refine Za (Zb (Zf (Zv rfl (Zbh (Zar (Za0 (Zaw rfl (Zb (Zf (Zg (Ze rfl rfl (Iv (Zag kk master x2)) rfl (Zc rfl rfl (Iv (Zag kk master x2)) rfl (Za (Zb (Zt (Zin (Zu ?_)))))))))))))))))
  rw [show Zcw kk master [x1, x2] = (Zag kk master x2) from by first | exact Zn1 | exact Zmh (by omega) | exact Zmp (by omega) (by omega) | exact Zkh (by omega) (by omega) (by assumption) | exact Zl3 (by omega) (by omega) (by assumption) | exact Zlr (by omega) | exact Zmy (by omega) (by omega) | exact Zl6 (by omega) (by omega) (by assumption) | exact Zl0 (by omega) (by omega) (by assumption) (by omega) | exact Zly (by omega) (by omega) (by assumption) (by omega) (by assumption) | exact Zmm (by omega) (by omega) (by assumption) (by omega) (by assumption)]
  exact Zm (v := Iv (Zag kk master x2)) rfl rfl rfl (by kernel_rfl) rfl
  refine Zk (vx := Zc7 x2.item.entry) (vy := Zc7 (⟨2, 0, 0, ⟨#[]⟩, x1.head, (⟨0, 0, 0, 0, dz⟩ : Claim)⟩ : Entry)) rfl rfl (.bool true) rfl rfl (Eq.trans (Zri x2.item.entry (⟨2, 0, 0, ⟨#[]⟩, x1.head, (⟨0, 0, 0, 0, dz⟩ : Claim)⟩ : Entry)) (by rw [h3] <;> rfl)) ?_
  refine Zo rfl rfl (.bool true) rfl (Za (Zb (Zz rfl (Zg (Zc rfl rfl (Iv 130) rfl (Za (Zab (Zab (Zb (Zg ?_))))))))))
  refine Zk (vx := Iv 1) (vy := Iv 1) rfl rfl (Iv 2) rfl rfl (Zaz (by omega) (by omega) (by omega)) ?_
  refine Ze rfl rfl (Iv 2) rfl (Za (Zjc (Zfy (Zf (Zg ?_)))))
  refine Zk (vx := Iv 2) (vy := Iv 2) rfl rfl (.bool false) rfl rfl (Zcj (by omega)) ?_
  refine Za (Zb (Zf (Zv rfl (Zbh (Zar (Za0 (Zaw rfl (Zb (Zf (Zg (Ze rfl rfl (Iv 130) rfl (Zc rfl rfl (Iv 130) rfl (Za (Zb (Zt (Zin (Zu ?_)))))))))))))))))
  rw [show Zcw kk master [x1, x2] = 130 from by first | exact Zn1 | exact Zmh (by omega) | exact Zmp (by omega) (by omega) | exact Zkh (by omega) (by omega) (by assumption) | exact Zl3 (by omega) (by omega) (by assumption) | exact Zlr (by omega) | exact Zmy (by omega) (by omega) | exact Zl6 (by omega) (by omega) (by assumption) | exact Zl0 (by omega) (by omega) (by assumption) (by omega) | exact Zly (by omega) (by omega) (by assumption) (by omega) (by assumption) | exact Zmm (by omega) (by omega) (by assumption) (by omega) (by assumption)]
  exact Zm (v := Iv 130) rfl rfl rfl (by kernel_rfl) rfl
  refine Zk (vx := Iv (Zag kk master x2)) (vy := Iv 0) rfl rfl (.bool false) rfl rfl (Zge (by omega)) ?_
  refine Ze rfl rfl (.bool false) rfl (Zj rfl rfl (Zj rfl rfl (Zj rfl rfl (Zj rfl rfl (Zj rfl rfl (Zo rfl rfl (.bool false) rfl (Za (Zb (Zv rfl (Z2 (Zab (Zab (Zb (Zg ?_))))))))))))))
  refine Zk (vx := Iv 1) (vy := Iv 1) rfl rfl (Iv 2) rfl rfl (Zaz (by omega) (by omega) (by omega)) ?_
  refine Ze rfl rfl (Iv 2) rfl (Za (Zjc (Zfy (Zf (Zg ?_)))))
  refine Zk (vx := Iv 2) (vy := Iv 2) rfl rfl (.bool false) rfl rfl (Zcj (by omega)) ?_
  refine Za (Zb (Zf (Zv rfl (Zbh (Zar (Za0 (Zaw rfl (Zb (Zf (Zg (Ze rfl rfl (Iv (Zag kk master x2)) rfl (Zc rfl rfl (Iv (Zag kk master x2)) rfl (Za (Zb (Zt (Zin (Zu ?_)))))))))))))))))
  rw [show Zcw kk master [x1, x2] = (Zag kk master x2) from by first | exact Zn1 | exact Zmh (by omega) | exact Zmp (by omega) (by omega) | exact Zkh (by omega) (by omega) (by assumption) | exact Zl3 (by omega) (by omega) (by assumption) | exact Zlr (by omega) | exact Zmy (by omega) (by omega) | exact Zl6 (by omega) (by omega) (by assumption) | exact Zl0 (by omega) (by omega) (by assumption) (by omega) | exact Zly (by omega) (by omega) (by assumption) (by omega) (by assumption) | exact Zmm (by omega) (by omega) (by assumption) (by omega) (by assumption)]
  exact Zm (v := Iv (Zag kk master x2)) rfl rfl rfl (by kernel_rfl) rfl
theorem Z11  : Zae Tryd.prog G 16 [.slice none 0 0] [] (.tuple #[Za1 (⟨0, (⟨0, 0, 0, ⟨#[]⟩, (⟨(⟨0, 0, 0, dz, 0⟩ : Head), 0, dz⟩ : Signed), (⟨0, 0, 0, 0, dz⟩ : Claim)⟩ : Entry)⟩ : Item), Z0 (⟨(⟨0, 0, 0, dz, 0⟩ : Head), 0, dz⟩ : Signed), Iv 130]) [] := by
 refine Zbj (fn := Tryd.f16) (nt := 24) rfl rfl rfl rfl ?_
 refine Zaj 2 (H' := [hole, hole]) rfl ?_
 refine Zf (Zg ?_)
 refine Z7 (b := bxB 110 (Zh (⟨0, (⟨0, 0, 0, ⟨#[]⟩, (⟨(⟨0, 0, 0, dz, 0⟩ : Head), 0, dz⟩ : Signed), (⟨0, 0, 0, 0, dz⟩ : Claim)⟩ : Entry)⟩ : Item))) (nid := 0) (H' := [bxB 110 (Zh (⟨0, (⟨0, 0, 0, ⟨#[]⟩, (⟨(⟨0, 0, 0, dz, 0⟩ : Head), 0, dz⟩ : Signed), (⟨0, 0, 0, 0, dz⟩ : Claim)⟩ : Entry)⟩ : Item)), hole]) rfl rfl (by kernel_rfl) (by kernel_rfl) ?_
 refine Z7 (b := bxB 69 (Zd (⟨(⟨0, 0, 0, dz, 0⟩ : Head), 0, dz⟩ : Signed))) (nid := 1) (H' := [bxB 110 (Zh (⟨0, (⟨0, 0, 0, ⟨#[]⟩, (⟨(⟨0, 0, 0, dz, 0⟩ : Head), 0, dz⟩ : Signed), (⟨0, 0, 0, 0, dz⟩ : Claim)⟩ : Entry)⟩ : Item)), bxB 69 (Zd (⟨(⟨0, 0, 0, dz, 0⟩ : Head), 0, dz⟩ : Signed))]) rfl rfl (by kernel_rfl) (by kernel_rfl) ?_
 refine Zc rfl rfl (Iv 0) rfl (Za (Zb (Zf (Zf (Zg (Ze rfl rfl (.slice none 0 0) rfl ?_))))))
 refine Z4 (e := []) (nid := 0) (Zt3 (G := G)) (vals := [.slice none 0 0]) (v := Iv 130) (H' := [bxB 110 (Zh (⟨0, (⟨0, 0, 0, ⟨#[]⟩, (⟨(⟨0, 0, 0, dz, 0⟩ : Head), 0, dz⟩ : Signed), (⟨0, 0, 0, 0, dz⟩ : Claim)⟩ : Entry)⟩ : Item)), bxB 69 (Zd (⟨(⟨0, 0, 0, dz, 0⟩ : Head), 0, dz⟩ : Signed))]) rfl rfl rfl rfl rfl rfl rfl ⟨⟨rfl, trivial⟩, trivial, rfl, rfl, rfl⟩ rfl (by kernel_rfl) ?_
 refine Zc rfl rfl (Iv 130) rfl (Za (Zb (Zf (Zg (Ze rfl rfl (Iv 130) rfl ?_)))))
 refine Zk (vx := Iv 130) (vy := Iv 0) rfl rfl (.bool true) rfl rfl (Zdg (by omega)) ?_
 refine Za (Zb (Zz rfl (Zf (Zg ?_))))
 refine Zbn (vs := []) (v := Za1 (⟨0, (⟨0, 0, 0, ⟨#[]⟩, (⟨(⟨0, 0, 0, dz, 0⟩ : Head), 0, dz⟩ : Signed), (⟨0, 0, 0, 0, dz⟩ : Claim)⟩ : Entry)⟩ : Item)) rfl rfl rfl (by kernel_rfl) ?_
 refine Zbn (vs := []) (v := Z0 (⟨(⟨0, 0, 0, dz, 0⟩ : Head), 0, dz⟩ : Signed)) rfl rfl rfl (by kernel_rfl) ?_
 refine Ze rfl rfl (Iv 130) rfl ?_
 refine Zx (p := pt 0 0) (v := Za1 (⟨0, (⟨0, 0, 0, ⟨#[]⟩, (⟨(⟨0, 0, 0, dz, 0⟩ : Head), 0, dz⟩ : Signed), (⟨0, 0, 0, 0, dz⟩ : Claim)⟩ : Entry)⟩ : Item)) (b := 0) (blk := bxB 110 (Zh (⟨0, (⟨0, 0, 0, ⟨#[]⟩, (⟨(⟨0, 0, 0, dz, 0⟩ : Head), 0, dz⟩ : Signed), (⟨0, 0, 0, 0, dz⟩ : Claim)⟩ : Entry)⟩ : Item))) (H' := [bxB 110 (Zh (⟨0, (⟨0, 0, 0, ⟨#[]⟩, (⟨(⟨0, 0, 0, dz, 0⟩ : Head), 0, dz⟩ : Signed), (⟨0, 0, 0, 0, dz⟩ : Claim)⟩ : Entry)⟩ : Item)), bxB 69 (Zd (⟨(⟨0, 0, 0, dz, 0⟩ : Head), 0, dz⟩ : Signed))]) rfl rfl rfl (by kernel_rfl) (by kernel_rfl) ?_
 refine Zx (p := pt 1 0) (v := Z0 (⟨(⟨0, 0, 0, dz, 0⟩ : Head), 0, dz⟩ : Signed)) (b := 1) (blk := bxB 69 (Zd (⟨(⟨0, 0, 0, dz, 0⟩ : Head), 0, dz⟩ : Signed))) (H' := [bxB 110 (Zh (⟨0, (⟨0, 0, 0, ⟨#[]⟩, (⟨(⟨0, 0, 0, dz, 0⟩ : Head), 0, dz⟩ : Signed), (⟨0, 0, 0, 0, dz⟩ : Claim)⟩ : Entry)⟩ : Item)), bxB 69 (Zd (⟨(⟨0, 0, 0, dz, 0⟩ : Head), 0, dz⟩ : Signed))]) rfl rfl rfl (by kernel_rfl) (by kernel_rfl) ?_
 refine Zc rfl rfl (Iv 130) rfl (Za (Zb (Zt (Z3 (Zu ?_)))))
 exact Zm (v := .tuple #[Za1 (⟨0, (⟨0, 0, 0, ⟨#[]⟩, (⟨(⟨0, 0, 0, dz, 0⟩ : Head), 0, dz⟩ : Signed), (⟨0, 0, 0, 0, dz⟩ : Claim)⟩ : Entry)⟩ : Item), Z0 (⟨(⟨0, 0, 0, dz, 0⟩ : Head), 0, dz⟩ : Signed), Iv 130]) (by kernel_rfl) rfl rfl (by kernel_rfl) ⟨(Zhe (by kernel_rfl) rfl), (Zhe (by kernel_rfl) rfl), rfl, trivial⟩
theorem Zz0 (x1 : PStep) (n1 c1 : Nat) (hn1 : x1.proof.length = n1) (hc1 : n1 ≤ c1) (hb1 : n1 ≤ 1000) (c : Nat) (hc : 1 ≤ c) : Zae Tryd.prog G 16 [slv 0 0 1 c] [mxR 181 ([Iv x1.index] ++ (Zh x1.item ++ ([slv 1 0 n1 c1] ++ (Zd x1.head)))), dsR x1.proof] (.tuple #[Za1 x1.item, Z0 x1.head, Iv 0]) [mxR 181 ([Iv x1.index] ++ (Zh x1.item ++ ([slv 1 0 n1 c1] ++ (Zd x1.head)))), dsR x1.proof] := by
 refine Zbj (fn := Tryd.f16) (nt := 24) rfl rfl rfl rfl ?_
 refine Zaj 2 (H' := [mxR 181 ([Iv x1.index] ++ (Zh x1.item ++ ([slv 1 0 n1 c1] ++ (Zd x1.head)))), dsR x1.proof, hole, hole]) rfl ?_
 refine Zf (Zg ?_)
 refine Z7 (b := bxB 110 (Zh (⟨0, (⟨0, 0, 0, ⟨#[]⟩, (⟨(⟨0, 0, 0, dz, 0⟩ : Head), 0, dz⟩ : Signed), (⟨0, 0, 0, 0, dz⟩ : Claim)⟩ : Entry)⟩ : Item))) (nid := 2) (H' := [mxR 181 ([Iv x1.index] ++ (Zh x1.item ++ ([slv 1 0 n1 c1] ++ (Zd x1.head)))), dsR x1.proof, bxB 110 (Zh (⟨0, (⟨0, 0, 0, ⟨#[]⟩, (⟨(⟨0, 0, 0, dz, 0⟩ : Head), 0, dz⟩ : Signed), (⟨0, 0, 0, 0, dz⟩ : Claim)⟩ : Entry)⟩ : Item)), hole]) rfl rfl (by kernel_rfl) (by kernel_rfl) ?_
 refine Z7 (b := bxB 69 (Zd (⟨(⟨0, 0, 0, dz, 0⟩ : Head), 0, dz⟩ : Signed))) (nid := 3) (H' := [mxR 181 ([Iv x1.index] ++ (Zh x1.item ++ ([slv 1 0 n1 c1] ++ (Zd x1.head)))), dsR x1.proof, bxB 110 (Zh (⟨0, (⟨0, 0, 0, ⟨#[]⟩, (⟨(⟨0, 0, 0, dz, 0⟩ : Head), 0, dz⟩ : Signed), (⟨0, 0, 0, 0, dz⟩ : Claim)⟩ : Entry)⟩ : Item)), bxB 69 (Zd (⟨(⟨0, 0, 0, dz, 0⟩ : Head), 0, dz⟩ : Signed))]) rfl rfl (by kernel_rfl) (by kernel_rfl) ?_
 refine Zc rfl rfl (Iv 0) rfl (Za (Zb (Zf (Zf (Zg (Ze rfl rfl (slv 0 0 1 c) rfl ?_))))))
 refine Z4 (e := [some (0, 0), some (1, 0)]) (nid := 0) (Ztp (G := G) x1 n1 c1 hn1 (by omega) (by omega) c (by omega)) (vals := [slv 0 0 1 c]) (v := Iv 0) (H' := [mxR 181 ([Iv x1.index] ++ (Zh x1.item ++ ([slv 1 0 n1 c1] ++ (Zd x1.head)))), dsR x1.proof, bxB 110 (Zh (⟨0, (⟨0, 0, 0, ⟨#[]⟩, (⟨(⟨0, 0, 0, dz, 0⟩ : Head), 0, dz⟩ : Signed), (⟨0, 0, 0, 0, dz⟩ : Claim)⟩ : Entry)⟩ : Item)), bxB 69 (Zd (⟨(⟨0, 0, 0, dz, 0⟩ : Head), 0, dz⟩ : Signed))]) rfl rfl rfl rfl rfl rfl rfl ⟨⟨⟨rfl, rfl, rfl, by omega, by omega⟩, trivial⟩, ⟨(Zcg rfl rfl (Nat.le_of_eq (by kernel_rfl)) (by kernel_rfl)), (Zer rfl), trivial⟩, rfl, rfl, rfl⟩ rfl (by kernel_rfl) ?_
 refine Zc rfl rfl (Iv 0) rfl (Za (Zb (Zf (Zg (Ze rfl rfl (Iv 0) rfl ?_)))))
 refine Zk (vx := Iv 0) (vy := Iv 0) rfl rfl (.bool false) rfl rfl (Zc5 (by omega)) ?_
 refine Za (Zb (Zv rfl (Z2 (Zb (Zf ?_)))))
 refine Zdu (by kernel_rfl) ?_
 refine Ze rfl rfl (slv 0 0 1 c) rfl ?_
 refine Zbf (b := 0) (o := 0) (j := 0) (m := 1) (c := c) (sz := 181) (i := 0) (k := .i64) rfl rfl rfl rfl rfl (by omega) (by omega) (by omega) ?_
 refine Zi (b := 0) (o := 0) (n := 1) (o' := 0 + 1) rfl rfl rfl rfl (by omega) ?_
 refine Zl (p := pt 0 (0 + 1)) (v := Za1 x1.item) rfl rfl rfl (by kernel_rfl) ?_
 refine Ze rfl rfl (slv 0 0 1 c) rfl (Ze rfl rfl (slv 0 0 1 c) rfl ?_)
 refine Zbl (p := slv 0 0 1 c) (v := Iv 1) rfl rfl rfl rfl ?_
 refine Zk (vx := Iv 1) (vy := Iv 1) rfl rfl (Iv 0) rfl rfl (Zde (by omega) (by omega) (by omega)) ?_
 refine Zbf (b := 0) (o := 0) (j := 0) (m := 1) (c := c) (sz := 181) (i := 0) (k := .i64) rfl rfl rfl rfl rfl (by omega) (by omega) (by omega) ?_
 refine Zi (b := 0) (o := 0) (n := 112) (o' := 0 + 112) rfl rfl rfl rfl (by omega) ?_
 refine Zl (p := pt 0 (0 + 112)) (v := Z0 x1.head) rfl rfl rfl (by kernel_rfl) ?_
 refine Zx (p := pt 2 0) (v := Za1 x1.item) (b := 2) (blk := bxB 110 (Zh x1.item)) (H' := [mxR 181 ([Iv x1.index] ++ (Zh x1.item ++ ([slv 1 0 n1 c1] ++ (Zd x1.head)))), dsR x1.proof, bxB 110 (Zh x1.item), bxB 69 (Zd (⟨(⟨0, 0, 0, dz, 0⟩ : Head), 0, dz⟩ : Signed))]) rfl rfl rfl (by kernel_rfl) (by kernel_rfl) ?_
 refine Zx (p := pt 3 0) (v := Z0 x1.head) (b := 3) (blk := bxB 69 (Zd x1.head)) (H' := [mxR 181 ([Iv x1.index] ++ (Zh x1.item ++ ([slv 1 0 n1 c1] ++ (Zd x1.head)))), dsR x1.proof, bxB 110 (Zh x1.item), bxB 69 (Zd x1.head)]) rfl rfl rfl (by kernel_rfl) (by kernel_rfl) ?_
 refine Zc rfl rfl (Iv 0) rfl ?_
 refine Zcu (Zgw [[], [0], [0, 1], [0, 1, 2], [], [], [5], [5, 6], [4, 5, 6, 7], [4, 5, 6, 7, 8], [4, 5, 6, 7, 8, 9], [0, 1, 2, 3], [0, 1, 2, 3, 4, 5, 6, 7, 8, 9, 10, 11], [0, 1, 2, 3, 4, 5, 6, 7, 8, 9, 10, 11, 12]] (by kernel_rfl) (by kernel_rfl)) ?_
 refine Zb (Zt (Zu ?_))
 exact Zm (v := .tuple #[Za1 x1.item, Z0 x1.head, Iv 0]) (by kernel_rfl) rfl rfl (by kernel_rfl) ⟨(Zhe (by kernel_rfl) rfl), (Zhe (by kernel_rfl) rfl), rfl, trivial⟩
end Go.Flat
namespace Go.Flat
open Go.Proofs
variable {G : Glob}
section
variable (kk : Nat → BitVec 32)
theorem Ztw {α : Type} (l : List α) (x d : α) : (l ++ [x]).take ((l ++ [x]).length - 1) = l ∧ (l ++ [x]).getD ((l ++ [x]).length - 1) d = x ∧ 0 < (l ++ [x]).length := by
 refine ⟨by simp, ?_, by simp⟩
 rw [List.getD_eq_getElem?_getD]; simp
theorem Zvc {l : List D} {i k : Nat} (h : i < k) : (l.take k).getD i d0 = l.getD i d0 := by
 rw [List.getD_eq_getElem?_getD, List.getD_eq_getElem?_getD, List.getElem?_take, if_pos h]
theorem Zwp {l : List D} {i k : Nat} (h : k ≤ i) : (l.drop k).getD (i - k) d0 = l.getD i d0 := by
 rw [List.getD_eq_getElem?_getD, List.getD_eq_getElem?_getD, List.getElem?_drop]; congr 2; omega
theorem Zye : ∀ (n : Nat) (l : List D) (i : Nat), l.length = n → i < n → ∃ w, Zfa n i (Zc1 kk l i) = some w ∧ (knA kk (l.getD i d0) w).getD 0 d0 = Zcd kk l := by
 intro n
 induction n using Nat.strongRecOn with
 | ind n ih =>
  intro l i hl hi
  by_cases h2 : 2 ≤ n
  ·obtain ⟨p1, p2⟩ := Zdx h2
   rw [Zzb kk (by omega), hl]
   by_cases hk : i < Zan n
   ·rw [Zto kk (by omega) (by rw [hl]; exact hk), hl]
    obtain ⟨q1, q2, q3⟩ := Ztw (Zc1 kk (l.take (Zan n)) i) (Zcd kk (l.drop (Zan n))) d0
    obtain ⟨w, w1, w2⟩ := ih (Zan n) p2 (l.take (Zan n)) i (by rw [List.length_take]; omega) hk
    rw [Zhp h2 q3 hk, q1, q2, w1]
    refine ⟨_, rfl, ?_⟩
    rw [Zvc hk] at w2
    simp only [knA, w2]
    rfl
   ·rw [Zur kk (by omega) (by rw [hl]; omega), hl]
    obtain ⟨q1, q2, q3⟩ := Ztw (Zc1 kk (l.drop (Zan n)) (i - Zan n)) (Zcd kk (l.take (Zan n))) d0
    obtain ⟨w, w1, w2⟩ := ih (n - Zan n) (by omega) (l.drop (Zan n)) (i - Zan n) (by rw [List.length_drop]; omega) (by omega)
    rw [Zhu h2 q3 (by omega), q1, q2, w1]
    refine ⟨_, rfl, ?_⟩
    rw [Zwp (by omega)] at w2
    simp only [knA, w2]
    rfl
  ·obtain rfl : n = 1 := by omega
   obtain rfl : i = 0 := by omega
   rw [Znf kk 0 (by omega), Zfr _ _ (by decide)]
   refine ⟨[], rfl, ?_⟩
   match l, hl with
   | [x], _ => rfl
theorem Zwm {l : List D} {n i : Nat} (hl : l.length = n) (hi : i < n) (hn : n ≤ 100000) : Zdk kk (Zcd kk l) (l.getD i d0) (n : Nat) (i : Nat) (Zc1 kk l i) = 0 := by
 obtain ⟨w, w1, w2⟩ := Zye kk n l i hl hi
 unfold Zdk
 rw [if_neg (by omega), show (n : Int).toNat = n from rfl, show (i : Int).toNat = i from rfl, w1]
 dsimp only
 rw [w2, Zuh]
 rfl
end
theorem Zrk : ∀ (l : List Item) (ep : Int) (i : Nat), Zjh ep l = true → i < l.length → Zdy (l.getD i default)
 | [], _, i, _, h => absurd h (by simp)
 | x :: l, ep, 0, h, _ => by
  rw [Zjh, Bool.and_eq_true, Bool.and_eq_true] at h
  exact of_decide_eq_true h.1.1
 | x :: l, ep, i + 1, h, hi => by
  rw [Zjh, Bool.and_eq_true] at h
  exact Zrk l x.epoch i h.2 (by simpa using hi)
theorem Zwy (kk : Nat → BitVec 32) (l : List Item) : ∀ (k i : Nat), i < k → (acL kk l k).getD i d0 = (Z1 kk (l.getD i default)).1
 | 0, i, h => by omega
 | k + 1, i, h => by
  rw [acL]
  rcases Nat.lt_or_ge i k with q | q
  ·rw [List.getD_eq_getElem?_getD, List.getElem?_append_left (by rw [Zfe]; exact q), ← List.getD_eq_getElem?_getD]
   exact Zwy kk l k i q
  ·obtain rfl : i = k := by omega
   rw [List.getD_eq_getElem?_getD, List.getElem?_append_right (by rw [Zfe]; exact Nat.le_refl _), Zfe, Nat.sub_self]; rfl
theorem Zw5 {kk : Nat → BitVec 32} {l : List Item} {n : Int} (h : (Zai kk l n).2 = 0) : Zhz l ∧ 0 ≤ n ∧ n ≤ l.length ∧ Zai kk l n = (acL kk l n.toNat, 0) := by
 unfold Zai at h ⊢
 split at h
 ·rename_i h1
  split at h
  ·rename_i h2
   exact ⟨h1, h2.1, h2.2, by rw [if_pos h1, if_pos h2]⟩
  ·exact absurd h (by decide)
 ·exact absurd h (by decide)
theorem Z3p {kk : Nat → BitVec 32} {l : List Item} {i : Nat} (h : Zhz l) (hi : i < l.length) : (Z1 kk (l.getD i default)).2 = 0 := by
 have : Zdy (l.getD i default) := Zrk l 0 i h.2 hi
 rw [show Z1 kk (l.getD i default) = (lfT kk (Zn (Zci (l.getD i default)).1), 0) from if_pos this]
theorem Z1w {kk : Nat → BitVec 32} {l : List Item} {n i : Int} (h : (Zw kk l n i).2 = 0) : 0 ≤ i ∧ i < l.length ∧ (Zaf kk l n).2 = 0 ∧ (Z1 kk (l.getD i.toNat default)).2 = 0 ∧ Zdk kk (Zaf kk l n).1 (Z1 kk (l.getD i.toNat default)).1 n i (Zw kk l n i).1 = 0 := by
 by_cases h0 : (Zai kk l n).2 = 0
 ·obtain ⟨g1, g2, g3, g4⟩ := Zw5 h0
  have hlen : (Zai kk l n).1.length = n.toNat := by rw [g4]; exact Zfe _ _ _
  by_cases h1 : 0 ≤ i ∧ i < (Zai kk l n).1.length
  ·rw [hlen] at h1
   have er : Zaf kk l n = (Zcd kk (acL kk l n.toNat), 0) := by unfold Zaf; rw [if_pos h0, g4]
   have ei : Zw kk l n i = (Zc1 kk (acL kk l n.toNat) i.toNat, 0) := by unfold Zw; rw [if_pos h0, hlen, if_pos h1, g4]
   rw [er, ei]
   refine ⟨h1.1, by omega, rfl, Z3p g1 (by omega), ?_⟩
   have := g1.1
   have hf := Zwm kk (l := acL kk l n.toNat) (n := n.toNat) (i := i.toNat) (Zfe _ _ _) (by omega) (by omega)
   rw [Zwy kk l n.toNat i.toNat (by omega), show ((n.toNat : Nat) : Int) = n by omega, show ((i.toNat : Nat) : Int) = i by omega] at hf
   exact hf
  ·rw [show Zw kk l n i = ([], 20) from by unfold Zw; rw [if_pos h0, if_neg h1]] at h
   exact absurd h (by decide)
 ·rw [show Zw kk l n i = ([], (Zai kk l n).2) from by unfold Zw; rw [if_neg h0]] at h
  exact absurd h h0
end Go.Flat
