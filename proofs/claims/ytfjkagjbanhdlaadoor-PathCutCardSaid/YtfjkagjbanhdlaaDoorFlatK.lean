/- Walks. -/
import Derived.Test.YtfjkagjbanhdlaaDoorT1
import Derived.Lib.Overlaps
set_option linter.unusedVariables false
set_option linter.unusedSimpArgs false
set_option maxRecDepth 20000
namespace Go.Flat
open Go.Proofs
variable {G : Glob}
def Zff (h : Signed) : Entry := ⟨2, 0, 0, ⟨#[]⟩, h, (⟨0, 0, 0, 0, dz⟩ : Claim)⟩
def Zi7 (kk : Nat → BitVec 32) (master : D) : Signed → List PStep → Int
  | _, [] => 0
  | h, y :: l => if Zy kk master y = 0 then (if Zdk y.item.entry (Zff h) = true then Zi7 kk master y.head l else 130) else Zy kk master y
def Ze5 (kk : Nat → BitVec 32) (master : D) : List PStep → Int
  | [] => 130
  | x :: l => if Zy kk master x = 0 then Zi7 kk master x.head l else Zy kk master x
section
variable {kk : Nat → BitVec 32} {m : D} {x y z : PStep}
theorem Zfm {l : List PStep} : Ze5 kk m (x :: l) = if Zy kk m x = 0 then Zi7 kk m x.head l else Zy kk m x := rfl
theorem Zdw {h : Signed} {l : List PStep} : Zi7 kk m h (y :: l) = if Zy kk m y = 0 then (if Zdk y.item.entry (Zff h) = true then Zi7 kk m y.head l else 130) else Zy kk m y := by rw [Zi7]
theorem Zln {h : Signed} : Zi7 kk m h [] = 0 := by rw [Zi7]
theorem Zp9 : Ze5 kk m [x] = Zy kk m x := by
 rw [Zfm]
 split
 ·rename_i h; rw [h, Zln]
 ·rfl
theorem Zmw (h : ¬ Zy kk m x = 0) : Ze5 kk m [x, y] = Zy kk m x := if_neg h
theorem Zmx (h : Zy kk m x = 0) (h2 : ¬ Zy kk m y = 0) : Ze5 kk m [x, y] = Zy kk m y := by rw [Zfm, if_pos h, Zdw, if_neg h2]
theorem Zk3 (h : Zy kk m x = 0) (h2 : Zy kk m y = 0) (h3 : Zdk y.item.entry (Zff x.head) = false) : Ze5 kk m [x, y] = 130 := by
 rw [Zfm, if_pos h, Zdw, if_pos h2, if_neg (by rw [h3]; decide)]
theorem Zmy (h : Zy kk m x = 0) (h2 : Zy kk m y = 0) (h3 : Zdk y.item.entry (Zff x.head) = true) : Ze5 kk m [x, y] = Zy kk m y := by
 rw [Zfm, if_pos h, Zdw, if_pos h2, if_pos h3, Zln, h2]
theorem Zmz (h : ¬ Zy kk m x = 0) : Ze5 kk m [x, y, z] = Zy kk m x := if_neg h
theorem Zm0 (h : Zy kk m x = 0) (h2 : ¬ Zy kk m y = 0) : Ze5 kk m [x, y, z] = Zy kk m y := by rw [Zfm, if_pos h, Zdw, if_neg h2]
theorem Zm1 (h : Zy kk m x = 0) (h2 : Zy kk m y = 0) (h3 : Zdk y.item.entry (Zff x.head) = false) : Ze5 kk m [x, y, z] = 130 := by
 rw [Zfm, if_pos h, Zdw, if_pos h2, if_neg (by rw [h3]; decide)]
theorem Zqa (h : Zy kk m x = 0) (h2 : Zy kk m y = 0) (h3 : Zdk y.item.entry (Zff x.head) = true) : Ze5 kk m [x, y, z] = Zi7 kk m y.head [z] := by
 rw [Zfm, if_pos h, Zdw, if_pos h2, if_pos h3]
theorem Zm2 (h : Zy kk m x = 0) (h2 : Zy kk m y = 0) (h3 : Zdk y.item.entry (Zff x.head) = true) (h4 : ¬ Zy kk m z = 0) : Ze5 kk m [x, y, z] = Zy kk m z := by rw [Zqa h h2 h3, Zdw, if_neg h4]
theorem Zm3 (h : Zy kk m x = 0) (h2 : Zy kk m y = 0) (h3 : Zdk y.item.entry (Zff x.head) = true) (h4 : Zy kk m z = 0) (h5 : Zdk z.item.entry (Zff y.head) = false) : Ze5 kk m [x, y, z] = 130 := by
 rw [Zqa h h2 h3, Zdw, if_pos h4, if_neg (by rw [h5]; decide)]
theorem Zm4 (h : Zy kk m x = 0) (h2 : Zy kk m y = 0) (h3 : Zdk y.item.entry (Zff x.head) = true) (h4 : Zy kk m z = 0) (h5 : Zdk z.item.entry (Zff y.head) = true) : Ze5 kk m [x, y, z] = Zy kk m z := by
 rw [Zqa h h2 h3, Zdw, if_pos h4, if_pos h5, Zln, h4]
end
theorem Zuc  : Z9 Tryd.prog G 29 [.slice none 0 0] [] (Iv 130) [] := by
 refine Zbu (fn := Tryd.f29) (nt := 11) rfl rfl rfl rfl ?_
 refine Ze (Zf (Zb (Iv 0) (Za (Zc (Ze (Ze (Zf (Zd (.slice none 0 0) (Zc3 (p := .slice none 0 0) (v := Iv 0) ?_)))))))))
 refine Zj (vx := Iv 0) (vy := Iv 0) rfl rfl (.bool true) rfl rfl (Zeb (by omega)) ?_
 refine Zd (.bool true) (Zg (Zg (Zg (Zl (.bool true) (Za (Zc (Zv rfl (Ze (Zf (Zb (Iv 130) (Za (Zc (Zs (Zaa (Zu ?_)))))))))))))))
 exact Zm (v := Iv 130) rfl rfl rfl (by kernel_rfl) rfl
theorem Zud (x1 : PStep) (n1 c1 : Nat) (hn1 : x1.proof.length = n1) (hc1 : n1 ≤ c1) (hb1 : n1 ≤ 1000) (c : Nat) (hc : 1 ≤ c) : Z9 Tryd.prog G 29 [slv 0 0 1 c] [mxR 181 ([Iv x1.index] ++ (Zr x1.item ++ ([slv 1 0 n1 c1] ++ (Zh x1.head)))), dsR x1.proof] (Iv 0) [mxR 181 ([Iv x1.index] ++ (Zr x1.item ++ ([slv 1 0 n1 c1] ++ (Zh x1.head)))), dsR x1.proof] := by
 refine Zbu (fn := Tryd.f29) (nt := 11) rfl rfl rfl rfl ?_
 refine Ze (Zf (Zb (Iv 0) (Za (Zc (Ze (Ze (Zf (Zd (slv 0 0 1 c) (Zc3 (p := slv 0 0 1 c) (v := Iv 1) ?_)))))))))
 refine Zj (vx := Iv 1) (vy := Iv 0) rfl rfl (.bool false) rfl rfl (Zgm (by omega)) ?_
 refine Zd (.bool false) (Zd (slv 0 0 1 c) (Zc3 (p := slv 0 0 1 c) (v := Iv 1) ?_))
 refine Zj (vx := Iv 1) (vy := Iv 5) rfl rfl (.bool false) rfl rfl (Ze2 (by omega)) ?_
 refine Zl (.bool false) (Za (Zc (Zt rfl (Z0 (Zc (Ze (Zf (Zb (Iv 0) (Za (Zc (Zs (Zu ?_))))))))))))
 exact Zm (v := Iv 0) rfl rfl rfl (by kernel_rfl) rfl
theorem Z1j (x1 : PStep) (n1 c1 : Nat) (hn1 : x1.proof.length = n1) (hc1 : n1 ≤ c1) (hb1 : n1 ≤ 1000) (x2 : PStep) (n2 c2 : Nat) (hn2 : x2.proof.length = n2) (hc2 : n2 ≤ c2) (hb2 : n2 ≤ 1000) (c : Nat) (hc : 2 ≤ c) : Z9 Tryd.prog G 29 [slv 0 0 2 c] [mxR 181 ([Iv x1.index] ++ (Zr x1.item ++ ([slv 1 0 n1 c1] ++ (Zh x1.head ++ ([Iv x2.index] ++ (Zr x2.item ++ ([slv 2 0 n2 c2] ++ (Zh x2.head)))))))), dsR x1.proof, dsR x2.proof] (Iv 0) [mxR 181 ([Iv x1.index] ++ (Zr x1.item ++ ([slv 1 0 n1 c1] ++ (Zh x1.head ++ ([Iv x2.index] ++ (Zr x2.item ++ ([slv 2 0 n2 c2] ++ (Zh x2.head)))))))), dsR x1.proof, dsR x2.proof] := by
 refine Zbu (fn := Tryd.f29) (nt := 11) rfl rfl rfl rfl ?_
 refine Ze (Zf (Zb (Iv 0) (Za (Zc (Ze (Ze (Zf (Zd (slv 0 0 2 c) (Zc3 (p := slv 0 0 2 c) (v := Iv 2) ?_)))))))))
 refine Zj (vx := Iv 2) (vy := Iv 0) rfl rfl (.bool false) rfl rfl (Zgm (by omega)) ?_
 refine Zd (.bool false) (Zd (slv 0 0 2 c) (Zc3 (p := slv 0 0 2 c) (v := Iv 2) ?_))
 refine Zj (vx := Iv 2) (vy := Iv 5) rfl rfl (.bool false) rfl rfl (Ze2 (by omega)) ?_
 refine Zl (.bool false) (Za (Zc (Zt rfl (Z0 (Zc (Ze (Zf (Zb (Iv 0) (Za (Zc (Zs (Zu ?_))))))))))))
 exact Zm (v := Iv 0) rfl rfl rfl (by kernel_rfl) rfl
theorem Zv2 (kk : Nat → BitVec 32) (hG : G 0 = some (Z6 w32 64 kk)) (master : D)  : Z9 Tryd.prog G 12 [dgV master, .slice none 0 0] [] (Iv 130) [] := by
 refine Zbu (fn := Tryd.f12) (nt := 48) rfl rfl rfl rfl ?_
 refine Zaj 1 (H' := [hole]) rfl ?_
 refine Ze (Zf (Zci (v := dgV master) (b := dgB master) (nid := 0) (H' := [dgB master]) (Zb (Iv 0) (Za (Zc ?_)))))
 refine Zoz (l := 0) rfl ?_
 refine Ze (Zf (Zd (.slice none 0 0) ?_))
 refine Zab (e := []) (nid := 0) (Zuc (G := G)) (vals := [.slice none 0 0]) (v := Iv 130) (H' := [dgB master]) rfl rfl rfl rfl rfl rfl rfl ⟨⟨rfl, trivial⟩, trivial, rfl, rfl, rfl⟩ rfl (by kernel_rfl) ?_
 refine Zb (Iv 130) (Za (Zc (Ze (Zoy (Zc (Ze (Ze (Zf (Zd (.slice none 0 0) (Zc3 (p := .slice none 0 0) (v := Iv 0) (Zd (Iv 0) (Za (Zc (Z5 ?_))))))))))))))
 refine Zpg 1 ?_
 refine Zid (Ze (Zf ?_))
 refine Zj (vx := Iv 0) (vy := Iv 0) rfl rfl (.bool false) rfl rfl (Zcw (by omega)) ?_
 refine Za (Zc (Ze (Zt rfl (Zbn (Zat (Za3 (Zay rfl (Zc (Ze (Zf (Zd (Iv 130) (Zb (Iv 130) (Za (Zc (Zs (Zgw (Zu ?_)))))))))))))))))
 exact Zm (v := Iv 130) rfl rfl rfl (by kernel_rfl) rfl
abbrev Y9 (x1 : PStep) (n1 : Nat) (c1 : Nat) : Blk := mxR 181 ([Iv x1.index] ++ (Zr x1.item ++ ([slv 1 0 n1 c1] ++ (Zh x1.head))))
theorem Zv3 (kk : Nat → BitVec 32) (hG : G 0 = some (Z6 w32 64 kk)) (master : D) (x1 : PStep) (n1 c1 : Nat) (hn1 : x1.proof.length = n1) (hc1 : n1 ≤ c1) (hb1 : n1 ≤ 1000) (hx1 : (-9223372036854775808 ≤ x1.index ∧ x1.index ≤ 9223372036854775807) ∧ -9223372036854775808 ≤ x1.head.head.size ∧ x1.head.head.size ≤ 9223372036854775807) (c : Nat) (hc : 1 ≤ c) : Z9 Tryd.prog G 12 [dgV master, slv 0 0 1 c] [mxR 181 ([Iv x1.index] ++ (Zr x1.item ++ ([slv 1 0 n1 c1] ++ (Zh x1.head)))), dsR x1.proof] (Iv (Ze5 kk master [x1])) [mxR 181 ([Iv x1.index] ++ (Zr x1.item ++ ([slv 1 0 n1 c1] ++ (Zh x1.head)))), dsR x1.proof] := by
  refine Zbu (fn := Tryd.f12) (nt := 48) rfl rfl rfl rfl ?_
  refine Zaj 2 (H' := [Y9 x1 n1 c1, dsR x1.proof, hole, hole]) rfl ?_
  refine Ze (Zf (Zci (v := dgV master) (b := dgB master) (nid := 2) (H' := [Y9 x1 n1 c1, dsR x1.proof, dgB master, hole]) (Zb (Iv 0) (Za (Zc ?_)))))
  refine Zoz (l := 0) rfl ?_
  refine Ze (Zf (Zd (slv 0 0 1 c) ?_))
  refine Zab (e := [some (0, 0), some (1, 0)]) (nid := 0) (Zud (G := G) x1 n1 c1 hn1 (by omega) (by omega) c (by omega)) (vals := [slv 0 0 1 c]) (v := Iv 0) (H' := [Y9 x1 n1 c1, dsR x1.proof, dgB master, hole]) rfl rfl rfl rfl rfl rfl rfl ⟨⟨⟨rfl, rfl, rfl, by omega, by omega⟩, trivial⟩, ⟨(Zdh rfl rfl (Nat.le_of_eq (by kernel_rfl)) (by kernel_rfl)), (Zh4 rfl), trivial⟩, rfl, rfl, rfl⟩ rfl (by kernel_rfl) ?_
  refine Zb (Iv 0) (Za (Zc (Ze (Zoy (Zc (Ze (Ze (Zf (Zd (slv 0 0 1 c) (Zc3 (p := slv 0 0 1 c) (v := Iv 1) (Zd (Iv 0) (Za (Zc (Z5 ?_))))))))))))))
  refine Zpg 2 ?_
  refine Zid (Ze (Zf ?_))
  refine Zj (vx := Iv 0) (vy := Iv 1) rfl rfl (.bool true) rfl rfl (Zdd (by omega)) ?_
  refine Za (Zc (Ze (Zv rfl (Z0 (Zc (Ze (Z5 (Ze (Zf (Zd (Iv 0) ?_))))))))))
  refine Zbs (b := 0) (o := 0) (j := 0) (m := 1) (c := c) (sz := 181) (i := 0) (k := .i64) rfl rfl rfl rfl rfl (by omega) (by omega) (by omega) ?_
  refine Zn (p := pt 0 0) (v := mxV ([Iv x1.index] ++ (Zr x1.item ++ ([slv 1 0 n1 c1] ++ (Zh x1.head))))) (Zai (b := mxB 181 ([Iv 0] ++ (Zr (⟨0, (⟨0, 0, 0, ⟨#[]⟩, (⟨(⟨0, 0, 0, dz, 0⟩ : Head), 0, dz⟩ : Signed), (⟨0, 0, 0, 0, dz⟩ : Claim)⟩ : Entry)⟩ : Item) ++ ([.slice none 0 0] ++ (Zh (⟨(⟨0, 0, 0, dz, 0⟩ : Head), 0, dz⟩ : Signed)))))) (nid := 3) (H' := [Y9 x1 n1 c1, dsR x1.proof, dgB master, mxB 181 ([Iv 0] ++ (Zr (⟨0, (⟨0, 0, 0, ⟨#[]⟩, (⟨(⟨0, 0, 0, dz, 0⟩ : Head), 0, dz⟩ : Signed), (⟨0, 0, 0, 0, dz⟩ : Claim)⟩ : Entry)⟩ : Item) ++ ([.slice none 0 0] ++ (Zh (⟨(⟨0, 0, 0, dz, 0⟩ : Head), 0, dz⟩ : Signed)))))]) (Zb (Iv 0) (Z2 (p := pt 3 0) (v := mxV ([Iv x1.index] ++ (Zr x1.item ++ ([slv 1 0 n1 c1] ++ (Zh x1.head))))) (b := 3) (blk := mxB 181 ([Iv x1.index] ++ (Zr x1.item ++ ([slv 1 0 n1 c1] ++ (Zh x1.head))))) (H' := [Y9 x1 n1 c1, dsR x1.proof, dgB master, mxB 181 ([Iv x1.index] ++ (Zr x1.item ++ ([slv 1 0 n1 c1] ++ (Zh x1.head))))]) (Za (Zc (Z5 (Ze (Zf (Zd (Iv 0) ?_)))))))))
  refine Zj (vx := Iv 0) (vy := Iv 0) rfl rfl (.bool false) rfl rfl (Zd6 (by omega)) ?_
  refine Zb (.bool false) (Za (Zc (Zt rfl (Ze (Zf (Zd (Iv 0) ?_))))))
  refine Zj (vx := Iv 0) (vy := Iv 0) rfl rfl (.bool false) rfl rfl (Ze2 (by omega)) ?_
  refine Zb (.bool false) (Za (Zc (Zt rfl (Zf (Zn (p := pt 2 0) (v := dgV master) (Zn (p := pt 3 0) (v := mxV ([Iv x1.index] ++ (Zr x1.item ++ ([slv 1 0 n1 c1] ++ (Zh x1.head))))) ?_))))))
  refine Zab (e := [some (1, 0)]) (nid := 0) (Zkq (G := G) kk hG master x1 n1 c1 hn1 (by omega) (by omega) (by first | omega | (dsimp only; omega))) (vals := [dgV master, mxV ([Iv x1.index] ++ (Zr x1.item ++ ([slv 1 0 n1 c1] ++ (Zh x1.head))))]) (v := Iv (Zy kk master x1)) (H' := [Y9 x1 n1 c1, dsR x1.proof, dgB master, mxB 181 ([Iv x1.index] ++ (Zr x1.item ++ ([slv 1 0 n1 c1] ++ (Zh x1.head))))]) rfl rfl rfl rfl rfl rfl rfl ⟨⟨rfl, (Zgf (by kernel_rfl) (Zav ⟨⟨rfl, rfl⟩, trivial⟩ (Zav (Zbk (by kernel_rfl)) (Zav ⟨⟨rfl, rfl, rfl, by first | omega | exact Nat.le_refl _, by first | omega | exact Nat.le_refl _⟩, trivial⟩ (Zbk (by kernel_rfl)))))), trivial⟩, ⟨(Zh4 rfl), trivial⟩, rfl, rfl, rfl⟩ rfl (by kernel_rfl) ?_
  refine Zb (Iv (Zy kk master x1)) (Za (Zz (Zz (Zc (Zf ?_)))))
  refine Zj (vx := Iv 0) (vy := Iv 1) rfl rfl (Iv 1) rfl rfl (Za0 (by omega) (by omega) (by omega)) ?_
  refine Zd (Iv 1) (Za (Znj (Zid (Ze (Zf ?_)))))
  refine Zj (vx := Iv 1) (vy := Iv 1) rfl rfl (.bool false) rfl rfl (Zcw (by omega)) ?_
  refine Za (Zc (Ze (Zt rfl (Zbn (Zat (Za3 (Zay rfl (Zc (Ze (Zf (Zd (Iv (Zy kk master x1)) (Zb (Iv (Zy kk master x1)) (Za (Zc (Zs (Zgw (Zu ?_)))))))))))))))))
  rw [show Ze5 kk master [x1] = (Zy kk master x1) from by first | exact Zp9 | exact Zmw (by omega) | exact Zmx (by omega) (by omega) | exact Zk3 (by omega) (by omega) (by assumption) | exact Zmy (by omega) (by omega) (by assumption) | exact Zmz (by omega) | exact Zm0 (by omega) (by omega) | exact Zm1 (by omega) (by omega) (by assumption) | exact Zm2 (by omega) (by omega) (by assumption) (by omega) | exact Zm3 (by omega) (by omega) (by assumption) (by omega) (by assumption) | exact Zm4 (by omega) (by omega) (by assumption) (by omega) (by assumption)]
  exact Zm (v := Iv (Zy kk master x1)) rfl rfl rfl (by kernel_rfl) rfl
abbrev Y10 (x1 : PStep) (n1 : Nat) (c1 : Nat) (x2 : PStep) (n2 : Nat) (c2 : Nat) : Blk := mxR 181 ([Iv x1.index] ++ (Zr x1.item ++ ([slv 1 0 n1 c1] ++ (Zh x1.head ++ ([Iv x2.index] ++ (Zr x2.item ++ ([slv 2 0 n2 c2] ++ (Zh x2.head))))))))
abbrev Y11 (x1 : PStep) (n1 : Nat) (c1 : Nat) : Blk := mxB 181 ([Iv x1.index] ++ (Zr x1.item ++ ([slv 1 0 n1 c1] ++ (Zh x1.head))))
abbrev Y12 (x2 : PStep) (n2 : Nat) (c2 : Nat) : Blk := mxB 181 ([Iv x2.index] ++ (Zr x2.item ++ ([slv 2 0 n2 c2] ++ (Zh x2.head))))
theorem Zv4 (kk : Nat → BitVec 32) (hG : G 0 = some (Z6 w32 64 kk)) (master : D) (x1 : PStep) (n1 c1 : Nat) (hn1 : x1.proof.length = n1) (hc1 : n1 ≤ c1) (hb1 : n1 ≤ 1000) (hx1 : (-9223372036854775808 ≤ x1.index ∧ x1.index ≤ 9223372036854775807) ∧ -9223372036854775808 ≤ x1.head.head.size ∧ x1.head.head.size ≤ 9223372036854775807) (x2 : PStep) (n2 c2 : Nat) (hn2 : x2.proof.length = n2) (hc2 : n2 ≤ c2) (hb2 : n2 ≤ 1000) (hx2 : (-9223372036854775808 ≤ x2.index ∧ x2.index ≤ 9223372036854775807) ∧ -9223372036854775808 ≤ x2.head.head.size ∧ x2.head.head.size ≤ 9223372036854775807) (c : Nat) (hc : 2 ≤ c) : Z9 Tryd.prog G 12 [dgV master, slv 0 0 2 c] [mxR 181 ([Iv x1.index] ++ (Zr x1.item ++ ([slv 1 0 n1 c1] ++ (Zh x1.head ++ ([Iv x2.index] ++ (Zr x2.item ++ ([slv 2 0 n2 c2] ++ (Zh x2.head)))))))), dsR x1.proof, dsR x2.proof] (Iv (Ze5 kk master [x1, x2])) [mxR 181 ([Iv x1.index] ++ (Zr x1.item ++ ([slv 1 0 n1 c1] ++ (Zh x1.head ++ ([Iv x2.index] ++ (Zr x2.item ++ ([slv 2 0 n2 c2] ++ (Zh x2.head)))))))), dsR x1.proof, dsR x2.proof] := by
  refine Zbu (fn := Tryd.f12) (nt := 48) rfl rfl rfl rfl ?_
  refine Zaj 4 (H' := [Y10 x1 n1 c1 x2 n2 c2, dsR x1.proof, dsR x2.proof, hole, hole, hole, hole]) rfl ?_
  refine Ze (Zf (Zci (v := dgV master) (b := dgB master) (nid := 3) (H' := [Y10 x1 n1 c1 x2 n2 c2, dsR x1.proof, dsR x2.proof, dgB master, hole, hole, hole]) (Zb (Iv 0) (Za (Zc ?_)))))
  refine Zoz (l := 0) rfl ?_
  refine Ze (Zf (Zd (slv 0 0 2 c) ?_))
  refine Zab (e := [some (0, 0), some (1, 0), some (2, 0)]) (nid := 0) (Z1j (G := G) x1 n1 c1 hn1 (by omega) (by omega) x2 n2 c2 hn2 (by omega) (by omega) c (by omega)) (vals := [slv 0 0 2 c]) (v := Iv 0) (H' := [Y10 x1 n1 c1 x2 n2 c2, dsR x1.proof, dsR x2.proof, dgB master, hole, hole, hole]) rfl rfl rfl rfl rfl rfl rfl ⟨⟨⟨rfl, rfl, rfl, by omega, by omega⟩, trivial⟩, ⟨(Zdh rfl rfl (Nat.le_of_eq (by kernel_rfl)) (by kernel_rfl)), (Zh4 rfl), (Zh4 rfl), trivial⟩, rfl, rfl, rfl⟩ rfl (by kernel_rfl) ?_
  refine Zb (Iv 0) (Za (Zc (Ze (Zoy (Zc (Ze (Ze (Zf (Zd (slv 0 0 2 c) (Zc3 (p := slv 0 0 2 c) (v := Iv 2) (Zd (Iv 0) (Za (Zc (Z5 ?_))))))))))))))
  refine Zpg 3 ?_
  refine Zid (Ze (Zf ?_))
  refine Zj (vx := Iv 0) (vy := Iv 2) rfl rfl (.bool true) rfl rfl (Zdd (by omega)) ?_
  refine Za (Zc (Ze (Zv rfl (Z0 (Zc (Ze (Z5 (Ze (Zf (Zd (Iv 0) ?_))))))))))
  refine Zbs (b := 0) (o := 0) (j := 0) (m := 2) (c := c) (sz := 181) (i := 0) (k := .i64) rfl rfl rfl rfl rfl (by omega) (by omega) (by omega) ?_
  refine Zn (p := pt 0 0) (v := mxV ([Iv x1.index] ++ (Zr x1.item ++ ([slv 1 0 n1 c1] ++ (Zh x1.head))))) (Zai (b := mxB 181 ([Iv 0] ++ (Zr (⟨0, (⟨0, 0, 0, ⟨#[]⟩, (⟨(⟨0, 0, 0, dz, 0⟩ : Head), 0, dz⟩ : Signed), (⟨0, 0, 0, 0, dz⟩ : Claim)⟩ : Entry)⟩ : Item) ++ ([.slice none 0 0] ++ (Zh (⟨(⟨0, 0, 0, dz, 0⟩ : Head), 0, dz⟩ : Signed)))))) (nid := 4) (H' := [Y10 x1 n1 c1 x2 n2 c2, dsR x1.proof, dsR x2.proof, dgB master, mxB 181 ([Iv 0] ++ (Zr (⟨0, (⟨0, 0, 0, ⟨#[]⟩, (⟨(⟨0, 0, 0, dz, 0⟩ : Head), 0, dz⟩ : Signed), (⟨0, 0, 0, 0, dz⟩ : Claim)⟩ : Entry)⟩ : Item) ++ ([.slice none 0 0] ++ (Zh (⟨(⟨0, 0, 0, dz, 0⟩ : Head), 0, dz⟩ : Signed))))), hole, hole]) (Zb (Iv 0) (Z2 (p := pt 4 0) (v := mxV ([Iv x1.index] ++ (Zr x1.item ++ ([slv 1 0 n1 c1] ++ (Zh x1.head))))) (b := 4) (blk := mxB 181 ([Iv x1.index] ++ (Zr x1.item ++ ([slv 1 0 n1 c1] ++ (Zh x1.head))))) (H' := [Y10 x1 n1 c1 x2 n2 c2, dsR x1.proof, dsR x2.proof, dgB master, Y11 x1 n1 c1, hole, hole]) (Za (Zc (Z5 (Ze (Zf (Zd (Iv 0) ?_)))))))))
  refine Zj (vx := Iv 0) (vy := Iv 0) rfl rfl (.bool false) rfl rfl (Zd6 (by omega)) ?_
  refine Zb (.bool false) (Za (Zc (Zt rfl (Ze (Zf (Zd (Iv 0) ?_))))))
  refine Zj (vx := Iv 0) (vy := Iv 0) rfl rfl (.bool false) rfl rfl (Ze2 (by omega)) ?_
  refine Zb (.bool false) (Za (Zc (Zt rfl (Zf (Zn (p := pt 3 0) (v := dgV master) (Zn (p := pt 4 0) (v := mxV ([Iv x1.index] ++ (Zr x1.item ++ ([slv 1 0 n1 c1] ++ (Zh x1.head))))) ?_))))))
  refine Zab (e := [some (1, 0)]) (nid := 0) (Zkq (G := G) kk hG master x1 n1 c1 hn1 (by omega) (by omega) (by first | omega | (dsimp only; omega))) (vals := [dgV master, mxV ([Iv x1.index] ++ (Zr x1.item ++ ([slv 1 0 n1 c1] ++ (Zh x1.head))))]) (v := Iv (Zy kk master x1)) (H' := [Y10 x1 n1 c1 x2 n2 c2, dsR x1.proof, dsR x2.proof, dgB master, Y11 x1 n1 c1, hole, hole]) rfl rfl rfl rfl rfl rfl rfl ⟨⟨rfl, (Zgf (by kernel_rfl) (Zav ⟨⟨rfl, rfl⟩, trivial⟩ (Zav (Zbk (by kernel_rfl)) (Zav ⟨⟨rfl, rfl, rfl, by first | omega | exact Nat.le_refl _, by first | omega | exact Nat.le_refl _⟩, trivial⟩ (Zbk (by kernel_rfl)))))), trivial⟩, ⟨(Zh4 rfl), trivial⟩, rfl, rfl, rfl⟩ rfl (by kernel_rfl) ?_
  refine Zb (Iv (Zy kk master x1)) (Za (Zz (Zz (Zc (Zf ?_)))))
  refine Zj (vx := Iv 0) (vy := Iv 1) rfl rfl (Iv 1) rfl rfl (Za0 (by omega) (by omega) (by omega)) ?_
  refine Zd (Iv 1) (Za (Znj (Zid (Ze (Zf ?_)))))
  refine Zj (vx := Iv 1) (vy := Iv 2) rfl rfl (.bool true) rfl rfl (Zdd (by omega)) ?_
  refine Za (Zc (Ze (Zv rfl (Z0 (Zc (Ze (Z5 (Ze (Zf (Zd (Iv 1) ?_))))))))))
  refine Zbs (b := 0) (o := 0) (j := 181) (m := 2) (c := c) (sz := 181) (i := 1) (k := .i64) rfl rfl rfl rfl rfl (by omega) (by omega) (by omega) ?_
  refine Zn (p := pt 0 181) (v := mxV ([Iv x2.index] ++ (Zr x2.item ++ ([slv 2 0 n2 c2] ++ (Zh x2.head))))) (Zai (b := mxB 181 ([Iv 0] ++ (Zr (⟨0, (⟨0, 0, 0, ⟨#[]⟩, (⟨(⟨0, 0, 0, dz, 0⟩ : Head), 0, dz⟩ : Signed), (⟨0, 0, 0, 0, dz⟩ : Claim)⟩ : Entry)⟩ : Item) ++ ([.slice none 0 0] ++ (Zh (⟨(⟨0, 0, 0, dz, 0⟩ : Head), 0, dz⟩ : Signed)))))) (nid := 5) (H' := [Y10 x1 n1 c1 x2 n2 c2, dsR x1.proof, dsR x2.proof, dgB master, Y11 x1 n1 c1, mxB 181 ([Iv 0] ++ (Zr (⟨0, (⟨0, 0, 0, ⟨#[]⟩, (⟨(⟨0, 0, 0, dz, 0⟩ : Head), 0, dz⟩ : Signed), (⟨0, 0, 0, 0, dz⟩ : Claim)⟩ : Entry)⟩ : Item) ++ ([.slice none 0 0] ++ (Zh (⟨(⟨0, 0, 0, dz, 0⟩ : Head), 0, dz⟩ : Signed))))), hole]) (Zb (Iv 1) (Z2 (p := pt 5 0) (v := mxV ([Iv x2.index] ++ (Zr x2.item ++ ([slv 2 0 n2 c2] ++ (Zh x2.head))))) (b := 5) (blk := mxB 181 ([Iv x2.index] ++ (Zr x2.item ++ ([slv 2 0 n2 c2] ++ (Zh x2.head))))) (H' := [Y10 x1 n1 c1 x2 n2 c2, dsR x1.proof, dsR x2.proof, dgB master, Y11 x1 n1 c1, Y12 x2 n2 c2, hole]) (Za (Zc (Z5 (Ze (Zf (Zd (Iv (Zy kk master x1)) ?_)))))))))
  by_cases h1 : (Zy kk master x1) ≠ 0
  refine Zj (vx := Iv (Zy kk master x1)) (vy := Iv 0) rfl rfl (.bool true) rfl rfl (Zek (by omega)) ?_
  refine Zb (.bool true) (Za (Zc (Zv rfl (Zbn (Zhs rfl (Zhs rfl (Zat (Za3 (Zay rfl (Zc (Ze (Zf (Zd (Iv (Zy kk master x1)) (Zb (Iv (Zy kk master x1)) (Za (Zc (Zs (Zgw (Zu ?_)))))))))))))))))))
  rw [show Ze5 kk master [x1, x2] = (Zy kk master x1) from by first | exact Zp9 | exact Zmw (by omega) | exact Zmx (by omega) (by omega) | exact Zk3 (by omega) (by omega) (by assumption) | exact Zmy (by omega) (by omega) (by assumption) | exact Zmz (by omega) | exact Zm0 (by omega) (by omega) | exact Zm1 (by omega) (by omega) (by assumption) | exact Zm2 (by omega) (by omega) (by assumption) (by omega) | exact Zm3 (by omega) (by omega) (by assumption) (by omega) (by assumption) | exact Zm4 (by omega) (by omega) (by assumption) (by omega) (by assumption)]
  exact Zm (v := Iv (Zy kk master x1)) rfl rfl rfl (by kernel_rfl) rfl
  refine Zj (vx := Iv (Zy kk master x1)) (vy := Iv 0) rfl rfl (.bool false) rfl rfl (Zd6 (by omega)) ?_
  refine Zb (.bool false) (Za (Zc (Zt rfl (Ze (Zf (Zd (Iv 1) ?_))))))
  refine Zj (vx := Iv 1) (vy := Iv 0) rfl rfl (.bool true) rfl rfl (Ze3 (by omega)) ?_
  refine Zb (.bool true) (Za (Zc (Zv rfl (Ze (Zf (Zd (slv 0 0 2 c) (Zd (Iv 1) ?_)))))))
  refine Zj (vx := Iv 1) (vy := Iv 1) rfl rfl (Iv 0) rfl rfl (Zdg (by omega) (by omega) (by omega)) ?_
  refine Zbs (b := 0) (o := 0) (j := 0) (m := 2) (c := c) (sz := 181) (i := 0) (k := .i64) rfl rfl rfl rfl rfl (by omega) (by omega) (by omega) ?_
  refine Za2 (b := 0) (o := 0) (n := 112) (o' := 0 + 112) rfl rfl rfl rfl (by omega) ?_
  refine Zn (p := pt 0 (0 + 112)) (v := Zw x1.head) ?_
  refine Zbm (vs := [(0, Iv 2), (4, Zw x1.head)]) (v := Zcy (⟨2, 0, 0, ⟨#[]⟩, x1.head, (⟨0, 0, 0, 0, dz⟩ : Claim)⟩ : Entry)) rfl rfl rfl (by kernel_rfl) ?_
  refine Zai (b := bxB 109 (Zc1 (⟨0, 0, 0, ⟨#[]⟩, (⟨(⟨0, 0, 0, dz, 0⟩ : Head), 0, dz⟩ : Signed), (⟨0, 0, 0, 0, dz⟩ : Claim)⟩ : Entry))) (nid := 6) (H' := [Y10 x1 n1 c1 x2 n2 c2, dsR x1.proof, dsR x2.proof, dgB master, Y11 x1 n1 c1, Y12 x2 n2 c2, bxB 109 (Zc1 (⟨0, 0, 0, ⟨#[]⟩, (⟨(⟨0, 0, 0, dz, 0⟩ : Head), 0, dz⟩ : Signed), (⟨0, 0, 0, 0, dz⟩ : Claim)⟩ : Entry))]) (Z2 (p := pt 6 0) (v := Zcy (⟨2, 0, 0, ⟨#[]⟩, x1.head, (⟨0, 0, 0, 0, dz⟩ : Claim)⟩ : Entry)) (b := 6) (blk := bxB 109 (Zc1 (⟨2, 0, 0, ⟨#[]⟩, x1.head, (⟨0, 0, 0, 0, dz⟩ : Claim)⟩ : Entry))) (H' := [Y10 x1 n1 c1 x2 n2 c2, dsR x1.proof, dsR x2.proof, dgB master, Y11 x1 n1 c1, Y12 x2 n2 c2, bxB 109 (Zc1 (⟨2, 0, 0, ⟨#[]⟩, x1.head, (⟨0, 0, 0, 0, dz⟩ : Claim)⟩ : Entry))]) (Za (Zc (Ze (Zf (Zn (p := pt 3 0) (v := dgV master) (Zn (p := pt 5 0) (v := mxV ([Iv x2.index] ++ (Zr x2.item ++ ([slv 2 0 n2 c2] ++ (Zh x2.head))))) ?_)))))))
  refine Zab (e := [some (2, 0)]) (nid := 0) (Zkq (G := G) kk hG master x2 n2 c2 hn2 (by omega) (by omega) (by first | omega | (dsimp only; omega))) (vals := [dgV master, mxV ([Iv x2.index] ++ (Zr x2.item ++ ([slv 2 0 n2 c2] ++ (Zh x2.head))))]) (v := Iv (Zy kk master x2)) (H' := [Y10 x1 n1 c1 x2 n2 c2, dsR x1.proof, dsR x2.proof, dgB master, Y11 x1 n1 c1, Y12 x2 n2 c2, bxB 109 (Zc1 (⟨2, 0, 0, ⟨#[]⟩, x1.head, (⟨0, 0, 0, 0, dz⟩ : Claim)⟩ : Entry))]) rfl rfl rfl rfl rfl rfl rfl ⟨⟨rfl, (Zgf (by kernel_rfl) (Zav ⟨⟨rfl, rfl⟩, trivial⟩ (Zav (Zbk (by kernel_rfl)) (Zav ⟨⟨rfl, rfl, rfl, by first | omega | exact Nat.le_refl _, by first | omega | exact Nat.le_refl _⟩, trivial⟩ (Zbk (by kernel_rfl)))))), trivial⟩, ⟨(Zh4 rfl), trivial⟩, rfl, rfl, rfl⟩ rfl (by kernel_rfl) ?_
  refine Zb (Iv (Zy kk master x2)) (Za (Zc (Ze (Zf (Zd (Iv (Zy kk master x2)) ?_)))))
  by_cases h2 : (Zy kk master x2) = 0
  refine Zj (vx := Iv (Zy kk master x2)) (vy := Iv 0) rfl rfl (.bool true) rfl rfl (Zeb (by omega)) ?_
  refine Zd (.bool true) (Zi (b := 5) (o := 0) (n := 1) (o' := 1) (Zi (b := 5) (o := 1) (n := 1) (o' := 2) (Zn (p := pt 5 2) (v := Zcy x2.item.entry) (Zn (p := pt 6 0) (v := Zcy (⟨2, 0, 0, ⟨#[]⟩, x1.head, (⟨0, 0, 0, 0, dz⟩ : Claim)⟩ : Entry)) ?_))))
  rcases Bool.eq_false_or_eq_true (Zdk x2.item.entry (⟨2, 0, 0, ⟨#[]⟩, x1.head, (⟨0, 0, 0, 0, dz⟩ : Claim)⟩ : Entry)) with h3 | h3
  refine Zj (vx := Zcy x2.item.entry) (vy := Zcy (⟨2, 0, 0, ⟨#[]⟩, x1.head, (⟨0, 0, 0, 0, dz⟩ : Claim)⟩ : Entry)) rfl rfl (.bool false) rfl rfl (Eq.trans (Zk2 x2.item.entry (⟨2, 0, 0, ⟨#[]⟩, x1.head, (⟨0, 0, 0, 0, dz⟩ : Claim)⟩ : Entry)) (by rw [h3] <;> rfl)) ?_
  refine Zl (.bool false) (Za (Zc (Zt rfl (Z0 (Zz (Zz (Zc (Zf ?_))))))))
  refine Zj (vx := Iv 1) (vy := Iv 1) rfl rfl (Iv 2) rfl rfl (Za0 (by omega) (by omega) (by omega)) ?_
  refine Zd (Iv 2) (Za (Znj (Zid (Ze (Zf ?_)))))
  refine Zj (vx := Iv 2) (vy := Iv 2) rfl rfl (.bool false) rfl rfl (Zcw (by omega)) ?_
  refine Za (Zc (Ze (Zt rfl (Zbn (Zat (Za3 (Zay rfl (Zc (Ze (Zf (Zd (Iv (Zy kk master x2)) (Zb (Iv (Zy kk master x2)) (Za (Zc (Zs (Zgw (Zu ?_)))))))))))))))))
  rw [show Ze5 kk master [x1, x2] = (Zy kk master x2) from by first | exact Zp9 | exact Zmw (by omega) | exact Zmx (by omega) (by omega) | exact Zk3 (by omega) (by omega) (by assumption) | exact Zmy (by omega) (by omega) (by assumption) | exact Zmz (by omega) | exact Zm0 (by omega) (by omega) | exact Zm1 (by omega) (by omega) (by assumption) | exact Zm2 (by omega) (by omega) (by assumption) (by omega) | exact Zm3 (by omega) (by omega) (by assumption) (by omega) (by assumption) | exact Zm4 (by omega) (by omega) (by assumption) (by omega) (by assumption)]
  exact Zm (v := Iv (Zy kk master x2)) rfl rfl rfl (by kernel_rfl) rfl
  refine Zj (vx := Zcy x2.item.entry) (vy := Zcy (⟨2, 0, 0, ⟨#[]⟩, x1.head, (⟨0, 0, 0, 0, dz⟩ : Claim)⟩ : Entry)) rfl rfl (.bool true) rfl rfl (Eq.trans (Zk2 x2.item.entry (⟨2, 0, 0, ⟨#[]⟩, x1.head, (⟨0, 0, 0, 0, dz⟩ : Claim)⟩ : Entry)) (by rw [h3] <;> rfl)) ?_
  refine Zl (.bool true) (Za (Zc (Zv rfl (Zf (Zb (Iv 130) (Za (Zz (Zz (Zc (Zf ?_))))))))))
  refine Zj (vx := Iv 1) (vy := Iv 1) rfl rfl (Iv 2) rfl rfl (Za0 (by omega) (by omega) (by omega)) ?_
  refine Zd (Iv 2) (Za (Znj (Zid (Ze (Zf ?_)))))
  refine Zj (vx := Iv 2) (vy := Iv 2) rfl rfl (.bool false) rfl rfl (Zcw (by omega)) ?_
  refine Za (Zc (Ze (Zt rfl (Zbn (Zat (Za3 (Zay rfl (Zc (Ze (Zf (Zd (Iv 130) (Zb (Iv 130) (Za (Zc (Zs (Zgw (Zu ?_)))))))))))))))))
  rw [show Ze5 kk master [x1, x2] = 130 from by first | exact Zp9 | exact Zmw (by omega) | exact Zmx (by omega) (by omega) | exact Zk3 (by omega) (by omega) (by assumption) | exact Zmy (by omega) (by omega) (by assumption) | exact Zmz (by omega) | exact Zm0 (by omega) (by omega) | exact Zm1 (by omega) (by omega) (by assumption) | exact Zm2 (by omega) (by omega) (by assumption) (by omega) | exact Zm3 (by omega) (by omega) (by assumption) (by omega) (by assumption) | exact Zm4 (by omega) (by omega) (by assumption) (by omega) (by assumption)]
  exact Zm (v := Iv 130) rfl rfl rfl (by kernel_rfl) rfl
  refine Zj (vx := Iv (Zy kk master x2)) (vy := Iv 0) rfl rfl (.bool false) rfl rfl (Zgm (by omega)) ?_
  refine Zd (.bool false) (Zg (Zg (Zg (Zg (Zg (Zl (.bool false) (Za (Zc (Zt rfl (Z0 (Zz (Zz (Zc (Zf ?_))))))))))))))
  refine Zj (vx := Iv 1) (vy := Iv 1) rfl rfl (Iv 2) rfl rfl (Za0 (by omega) (by omega) (by omega)) ?_
  refine Zd (Iv 2) (Za (Znj (Zid (Ze (Zf ?_)))))
  refine Zj (vx := Iv 2) (vy := Iv 2) rfl rfl (.bool false) rfl rfl (Zcw (by omega)) ?_
  refine Za (Zc (Ze (Zt rfl (Zbn (Zat (Za3 (Zay rfl (Zc (Ze (Zf (Zd (Iv (Zy kk master x2)) (Zb (Iv (Zy kk master x2)) (Za (Zc (Zs (Zgw (Zu ?_)))))))))))))))))
  rw [show Ze5 kk master [x1, x2] = (Zy kk master x2) from by first | exact Zp9 | exact Zmw (by omega) | exact Zmx (by omega) (by omega) | exact Zk3 (by omega) (by omega) (by assumption) | exact Zmy (by omega) (by omega) (by assumption) | exact Zmz (by omega) | exact Zm0 (by omega) (by omega) | exact Zm1 (by omega) (by omega) (by assumption) | exact Zm2 (by omega) (by omega) (by assumption) (by omega) | exact Zm3 (by omega) (by omega) (by assumption) (by omega) (by assumption) | exact Zm4 (by omega) (by omega) (by assumption) (by omega) (by assumption)]
  exact Zm (v := Iv (Zy kk master x2)) rfl rfl rfl (by kernel_rfl) rfl
abbrev Y13  : Blk := bxB 110 (Zr (⟨0, (⟨0, 0, 0, ⟨#[]⟩, (⟨(⟨0, 0, 0, dz, 0⟩ : Head), 0, dz⟩ : Signed), (⟨0, 0, 0, 0, dz⟩ : Claim)⟩ : Entry)⟩ : Item))
abbrev Y14  : Blk := bxB 69 (Zh (⟨(⟨0, 0, 0, dz, 0⟩ : Head), 0, dz⟩ : Signed))
theorem Z0h  : Z9 Tryd.prog G 16 [.slice none 0 0] [] (.tuple #[Zbq (⟨0, (⟨0, 0, 0, ⟨#[]⟩, (⟨(⟨0, 0, 0, dz, 0⟩ : Head), 0, dz⟩ : Signed), (⟨0, 0, 0, 0, dz⟩ : Claim)⟩ : Entry)⟩ : Item), Zw (⟨(⟨0, 0, 0, dz, 0⟩ : Head), 0, dz⟩ : Signed), Iv 130]) [] := by
 refine Zbu (fn := Tryd.f16) (nt := 24) rfl rfl rfl rfl ?_
 refine Zaj 2 (H' := [hole, hole]) rfl ?_
 refine Ze (Zf (Zai (b := bxB 110 (Zr (⟨0, (⟨0, 0, 0, ⟨#[]⟩, (⟨(⟨0, 0, 0, dz, 0⟩ : Head), 0, dz⟩ : Signed), (⟨0, 0, 0, 0, dz⟩ : Claim)⟩ : Entry)⟩ : Item))) (nid := 0) (H' := [Y13, hole]) (Zai (b := bxB 69 (Zh (⟨(⟨0, 0, 0, dz, 0⟩ : Head), 0, dz⟩ : Signed))) (nid := 1) (H' := [Y13, Y14]) (Zb (Iv 0) (Za (Zc (Ze (Ze (Zf (Zd (.slice none 0 0) ?_))))))))))
 refine Zab (e := []) (nid := 0) (Zuc (G := G)) (vals := [.slice none 0 0]) (v := Iv 130) (H' := [Y13, Y14]) rfl rfl rfl rfl rfl rfl rfl ⟨⟨rfl, trivial⟩, trivial, rfl, rfl, rfl⟩ rfl (by kernel_rfl) ?_
 refine Zb (Iv 130) (Za (Zc (Ze (Zf (Zd (Iv 130) ?_)))))
 refine Zj (vx := Iv 130) (vy := Iv 0) rfl rfl (.bool true) rfl rfl (Zek (by omega)) ?_
 refine Za (Zc (Zv rfl (Ze (Zf ?_))))
 refine Zbm (vs := []) (v := Zbq (⟨0, (⟨0, 0, 0, ⟨#[]⟩, (⟨(⟨0, 0, 0, dz, 0⟩ : Head), 0, dz⟩ : Signed), (⟨0, 0, 0, 0, dz⟩ : Claim)⟩ : Entry)⟩ : Item)) rfl rfl rfl (by kernel_rfl) ?_
 refine Zbm (vs := []) (v := Zw (⟨(⟨0, 0, 0, dz, 0⟩ : Head), 0, dz⟩ : Signed)) rfl rfl rfl (by kernel_rfl) ?_
 refine Zd (Iv 130) (Z2 (p := pt 0 0) (v := Zbq (⟨0, (⟨0, 0, 0, ⟨#[]⟩, (⟨(⟨0, 0, 0, dz, 0⟩ : Head), 0, dz⟩ : Signed), (⟨0, 0, 0, 0, dz⟩ : Claim)⟩ : Entry)⟩ : Item)) (b := 0) (blk := bxB 110 (Zr (⟨0, (⟨0, 0, 0, ⟨#[]⟩, (⟨(⟨0, 0, 0, dz, 0⟩ : Head), 0, dz⟩ : Signed), (⟨0, 0, 0, 0, dz⟩ : Claim)⟩ : Entry)⟩ : Item))) (H' := [Y13, Y14]) (Z2 (p := pt 1 0) (v := Zw (⟨(⟨0, 0, 0, dz, 0⟩ : Head), 0, dz⟩ : Signed)) (b := 1) (blk := bxB 69 (Zh (⟨(⟨0, 0, 0, dz, 0⟩ : Head), 0, dz⟩ : Signed))) (H' := [Y13, Y14]) (Zb (Iv 130) (Za (Zc (Zs (Zaa (Zu ?_))))))))
 exact Zm (v := .tuple #[Zbq (⟨0, (⟨0, 0, 0, ⟨#[]⟩, (⟨(⟨0, 0, 0, dz, 0⟩ : Head), 0, dz⟩ : Signed), (⟨0, 0, 0, 0, dz⟩ : Claim)⟩ : Entry)⟩ : Item), Zw (⟨(⟨0, 0, 0, dz, 0⟩ : Head), 0, dz⟩ : Signed), Iv 130]) (by kernel_rfl) rfl rfl (by kernel_rfl) ⟨(Zhe (by kernel_rfl) rfl), (Zhe (by kernel_rfl) rfl), rfl, trivial⟩
abbrev Y15 (x1 : PStep) (n1 : Nat) (c1 : Nat) : Blk := mxR 181 ([Iv x1.index] ++ (Zr x1.item ++ ([slv 1 0 n1 c1] ++ (Zh x1.head))))
abbrev Y16  : Blk := bxB 110 (Zr (⟨0, (⟨0, 0, 0, ⟨#[]⟩, (⟨(⟨0, 0, 0, dz, 0⟩ : Head), 0, dz⟩ : Signed), (⟨0, 0, 0, 0, dz⟩ : Claim)⟩ : Entry)⟩ : Item))
theorem Z0i (x1 : PStep) (n1 c1 : Nat) (hn1 : x1.proof.length = n1) (hc1 : n1 ≤ c1) (hb1 : n1 ≤ 1000) (c : Nat) (hc : 1 ≤ c) : Z9 Tryd.prog G 16 [slv 0 0 1 c] [mxR 181 ([Iv x1.index] ++ (Zr x1.item ++ ([slv 1 0 n1 c1] ++ (Zh x1.head)))), dsR x1.proof] (.tuple #[Zbq x1.item, Zw x1.head, Iv 0]) [mxR 181 ([Iv x1.index] ++ (Zr x1.item ++ ([slv 1 0 n1 c1] ++ (Zh x1.head)))), dsR x1.proof] := by
 refine Zbu (fn := Tryd.f16) (nt := 24) rfl rfl rfl rfl ?_
 refine Zaj 2 (H' := [Y15 x1 n1 c1, dsR x1.proof, hole, hole]) rfl ?_
 refine Ze (Zf (Zai (b := bxB 110 (Zr (⟨0, (⟨0, 0, 0, ⟨#[]⟩, (⟨(⟨0, 0, 0, dz, 0⟩ : Head), 0, dz⟩ : Signed), (⟨0, 0, 0, 0, dz⟩ : Claim)⟩ : Entry)⟩ : Item))) (nid := 2) (H' := [Y15 x1 n1 c1, dsR x1.proof, Y16, hole]) (Zai (b := bxB 69 (Zh (⟨(⟨0, 0, 0, dz, 0⟩ : Head), 0, dz⟩ : Signed))) (nid := 3) (H' := [Y15 x1 n1 c1, dsR x1.proof, Y16, bxB 69 (Zh (⟨(⟨0, 0, 0, dz, 0⟩ : Head), 0, dz⟩ : Signed))]) (Zb (Iv 0) (Za (Zc (Ze (Ze (Zf (Zd (slv 0 0 1 c) ?_))))))))))
 refine Zab (e := [some (0, 0), some (1, 0)]) (nid := 0) (Zud (G := G) x1 n1 c1 hn1 (by omega) (by omega) c (by omega)) (vals := [slv 0 0 1 c]) (v := Iv 0) (H' := [Y15 x1 n1 c1, dsR x1.proof, Y16, bxB 69 (Zh (⟨(⟨0, 0, 0, dz, 0⟩ : Head), 0, dz⟩ : Signed))]) rfl rfl rfl rfl rfl rfl rfl ⟨⟨⟨rfl, rfl, rfl, by omega, by omega⟩, trivial⟩, ⟨(Zdh rfl rfl (Nat.le_of_eq (by kernel_rfl)) (by kernel_rfl)), (Zh4 rfl), trivial⟩, rfl, rfl, rfl⟩ rfl (by kernel_rfl) ?_
 refine Zb (Iv 0) (Za (Zc (Ze (Zf (Zd (Iv 0) ?_)))))
 refine Zj (vx := Iv 0) (vy := Iv 0) rfl rfl (.bool false) rfl rfl (Zd6 (by omega)) ?_
 refine Za (Zc (Zt rfl (Z0 (Zc (Ze ?_)))))
 refine Zer (by kernel_rfl) ?_
 refine Zd (slv 0 0 1 c) ?_
 refine Zbs (b := 0) (o := 0) (j := 0) (m := 1) (c := c) (sz := 181) (i := 0) (k := .i64) rfl rfl rfl rfl rfl (by omega) (by omega) (by omega) ?_
 refine Za2 (b := 0) (o := 0) (n := 1) (o' := 0 + 1) rfl rfl rfl rfl (by omega) ?_
 refine Zn (p := pt 0 (0 + 1)) (v := Zbq x1.item) (Zd (slv 0 0 1 c) (Zd (slv 0 0 1 c) (Zc3 (p := slv 0 0 1 c) (v := Iv 1) ?_)))
 refine Zj (vx := Iv 1) (vy := Iv 1) rfl rfl (Iv 0) rfl rfl (Zdg (by omega) (by omega) (by omega)) ?_
 refine Zbs (b := 0) (o := 0) (j := 0) (m := 1) (c := c) (sz := 181) (i := 0) (k := .i64) rfl rfl rfl rfl rfl (by omega) (by omega) (by omega) ?_
 refine Za2 (b := 0) (o := 0) (n := 112) (o' := 0 + 112) rfl rfl rfl rfl (by omega) ?_
 refine Zn (p := pt 0 (0 + 112)) (v := Zw x1.head) (Z2 (p := pt 2 0) (v := Zbq x1.item) (b := 2) (blk := bxB 110 (Zr x1.item)) (H' := [Y15 x1 n1 c1, dsR x1.proof, bxB 110 (Zr x1.item), bxB 69 (Zh (⟨(⟨0, 0, 0, dz, 0⟩ : Head), 0, dz⟩ : Signed))]) (Z2 (p := pt 3 0) (v := Zw x1.head) (b := 3) (blk := bxB 69 (Zh x1.head)) (H' := [Y15 x1 n1 c1, dsR x1.proof, bxB 110 (Zr x1.item), bxB 69 (Zh x1.head)]) (Zb (Iv 0) ?_)))
 refine Zdq (Zis [[], [0], [0, 1], [0, 1, 2], [], [], [5], [5, 6], [4, 5, 6, 7], [4, 5, 6, 7, 8], [4, 5, 6, 7, 8, 9], [0, 1, 2, 3], [0, 1, 2, 3, 4, 5, 6, 7, 8, 9, 10, 11], [0, 1, 2, 3, 4, 5, 6, 7, 8, 9, 10, 11, 12]] (by kernel_rfl) (by kernel_rfl)) ?_
 refine Zc (Zs (Zu ?_))
 exact Zm (v := .tuple #[Zbq x1.item, Zw x1.head, Iv 0]) (by kernel_rfl) rfl rfl (by kernel_rfl) ⟨(Zhe (by kernel_rfl) rfl), (Zhe (by kernel_rfl) rfl), rfl, trivial⟩
end Go.Flat
section
/- Rows whose capacity is known: cap, an append that must move, overlaps; and slices.Insert put together from its two roads. -/
namespace Go.Flat
def exB (n : Nat) (l : List Value) : Blk := { cells := l, sz := n, wr := true, fix := true, mv := true, pur := false }
section
variable {P : Program} {G : Glob}


def Zpq (σ : List Blk) (b : Nat) : Bool := match σ[b]? with | some x => x.wr && x.fix && x.mv && decide (0 < x.sz) | none => false
def capD (P : Program) (σ : List Blk) (t : TypeId) (v : Value) : Option Value :=
  match P.underlying t, v with
  | some (.slice _), .slice (some ⟨b, _, none⟩) _ c => if Zpq σ b then some (.int .i64 c) else none
  | _, _ => none
theorem Zt8 {σ : List Blk} {b : Nat} (h : Zpq σ b = true) : ∃ x, σ[b]? = some x ∧ x.wr = true ∧ x.fix = true ∧ x.mv = true ∧ 0 < x.sz := by
 unfold Zpq at h
 split at h
 ·rename_i x hx
  simp only [Bool.and_eq_true, decide_eq_true_eq] at h
  exact ⟨x, hx, h.1.1.1, h.1.1.2, h.1.2, h.2⟩
 ·cases h
theorem HRel.exact {m : MapM} {σ : List Blk} {w : World} (h : HRel G m σ w) {b o n c c' : Nat} {r : Reg} {a' : Option Addr} (hx : Zpq σ b = true) (hr : m b = some r) (hs : Zlk r o n c a' c') : c' = c := by
 obtain ⟨x, hb, h1, h2, h3, _⟩ := Zt8 hx
 obtain ⟨_, g1, g2, _, _, g5⟩ := h.at_ hb hr
 rcases Nat.eq_zero_or_pos c' with h0 | h0
 ·have := hs.2.1; omega
 ·exact (hs.2.2 h0).2.2 (by rw [g1, h1]) (by rw [g2, h2]) (by rw [g5, h3])

def appZ (P : Program) (σ : List Blk) (t : TypeId) (v x : Value) (nid : Nat) : Option (Value × Blk) :=
  match Zdf P t, v, x with
  | some (sz, zc, by_), .slice (some ⟨b, o, none⟩) n c, .int .i64 z => (σ[b]?).bind fun blk =>
      if Zpq σ b = true ∧ zc.length = sz ∧ 0 < sz ∧ 0 < by_ ∧ 0 < z ∧ c < n + z.toNat ∧ (n + z.toNat) * by_ ≤ 140737488355328 ∧ o + n * sz ≤ blk.cells.length ∧ Zc5 σ nid = true then
        some (.slice (some ⟨nid, 0, none⟩) (n + z.toNat) (n + z.toNat), Zde false false sz ((blk.cells.drop o).take (n * sz) ++ List.replicate (z.toNat * sz) dead)) else none
  | _, _, _ => none
end
section
variable {P : Program} {G : Glob}

def overD (σ : List Blk) (sz : Nat) (x y : Value) : Option Value :=
  match x, y with
  | .slice (some ⟨b1, o1, none⟩) n1 _, .slice (some ⟨b2, o2, none⟩) n2 _ => (σ[b1]?).bind fun B1 => (σ[b2]?).bind fun B2 =>
      if b1 ≠ b2 ∧ B1.wr = true ∧ B2.wr = true ∧ 1 < B1.sz ∧ 1 < B2.sz ∧ 0 < n1 ∧ 0 < n2 ∧ 0 < sz ∧ o1 + n1 * sz ≤ B1.cells.length ∧ o2 + n2 * sz ≤ B2.cells.length then some (.bool false) else none
  | _, _ => none
structure IsOver (P : Program) (f : FuncId) (sz : Nat) : Prop where
  run : ∃ tS tR e, P.underlying tS = some (.slice e) ∧ (∀ w, (Go.sizeOf e).run P w = .ok sz w) ∧ ∀ args w, (callFunc f args).run P w = ((Extern.SlicesOverlaps.overlaps #[tS, tS] #[tR] args).run P w).andThen fun v w' => .ok (.value v) w'
end
section
variable {P : Program} {G : Glob} {nt : Nat} {ops l : List Oper} {K : Trace → St → Prop} {tr : Trace} {T : Nat → Value} {H H' : List Blk} {d : Tmp} {ty : TypeId} {ps : String} {af : Array Edge} {g : Option (Nat × Bool)}
end


section
variable {P : Program} {G : Glob}
def Z2i (P : Program) (G : Glob) (fn : Func) (Φ : St → Value → Prop) : Exit → St → Prop
  | .normal, s | .ret, s => ∃ v, Zem P G fn s = some v ∧ Φ s v
  | _, _ => False
theorem Zf3 {fn : Func} {Φ : St → Value → Prop} {s : St} {v : Value} (hr : Zem P G fn s = some v) (h : Φ s v) : X (Z2i P G fn Φ) .ret s := ⟨⟨v, hr, h⟩⟩
theorem Z6v {f : FuncId} {fn : Func} {c : Code} {nt : Nat} {args args' : List Value} {σ : List Blk} {m : MapM} {w : World} (hf : P.funcs[f]? = some fn) (hb : fn.body = some c) (hnt : fn.ntmps = nt) (hn : args.length ≤ nt)
  (hH : HRel G m σ w) (hA : L2 (VR m) args args') (Φ : St → Value → Prop) (h : C P G nt σ.length c (Z2i P G fn Φ) ⟨Zht args, σ⟩) {R : Ending → World → Prop}
  (hR : ∀ s v m' w' v', Φ s v → HRel G m' s.heap w' → VR m' v v' → Frame ⟨m, w, []⟩ m' w' → R (.returned v') w') : Calls P f args'.toArray w R := by
 subst hnt
 refine calls_of_wp hf hb ?_
 have hl := hA.1
 have hdom : ∀ b, σ.length ≤ b → m b = none := fun b hb => hH.dom hb
 have h0 := h.h ⟨m, w, []⟩ m { tmps := args'.toArray ++ Array.replicate (fn.ntmps - args'.toArray.size) undef, defers := [] } w hdom
  ⟨by simp; omega, fun i => by
   rcases hA.at_ i with ⟨x, y, h1, h2, h3⟩ | ⟨h1, h2⟩
   ·have hi : i < args'.length := (List.getElem?_eq_some_iff.1 h2).1
    simp only [Zht, h1, Option.getD_some]
    rw [Array.getD_eq_getD_getElem?, Array.getElem?_append_left (by simpa using hi)]
    simp only [List.getElem?_toArray, h2, Option.getD_some]
    exact h3
   ·simp only [Zht, h1, Option.getD_none]
    have : args'.length ≤ i := by simpa using h2
    rw [Array.getD_eq_getD_getElem?, Array.getElem?_append_right (by simpa using this)]
    rw [Array.getElem?_replicate]
    split <;> exact VR.undef, rfl, hH, Frame.refl [] hH⟩
 refine wp_mono h0 ?_
 rintro e a w' ⟨s, m', hq, hr⟩
 have key : (∃ v, Zem P G fn s = some v ∧ Φ s v) → a.defers = [] ∧ ∃ v, (results fn a.tmps).run P w' = .ok v w' ∧ R (.returned v) w' := by
  rintro ⟨v, hv, hΦ⟩
  obtain ⟨v', g1, g2⟩ := Zdl hr hv
  exact ⟨hr.defers, v', g1, hR s v m' w' v' hΦ hr.heap g2 hr.frame⟩
 cases e with
 | normal => exact key hq
 | ret => exact key hq
 | _ => exact hq.elim


def Zuz (m : MapM) (r : Reg) : MapM := fun b => if b = 0 then some r else if b = 1 then m 1 else none
theorem HRel.pick {m : MapM} {H : List Blk} {w : World} (h : HRel G m H w) {j : Nat} {X B0 B1 : Blk} {r : Reg} (hX : H[j]? = some X) (hr : m j = some r) (h1 : H[1]? = some B1) (hj : j ≠ 1)
  (hw : X.wr = true) (hw0 : B0.wr = true) (hs : B0.sz = X.sz) (hf : B0.fix = false) (hm : B0.mv = X.mv) (hc : B0.cells = X.cells.take B0.cells.length) (hl : B0.cells.length ≤ X.cells.length)
  (hp0 : ∀ v, v ∈ B0.cells → Zbj v = true) (hp1 : B1.pur = true) (hs1 : 0 < B1.sz) :
  HRel G (Zuz m { r with len := B0.cells.length, fix := false }) [B0, B1] w := by
 obtain ⟨a1, a2, a3, a4, a5, a6⟩ := h.at_ hX hr
 obtain ⟨r1, hr1⟩ := h.live 1 B1 h1 hs1
 obtain ⟨b1, b2, b3, b4, b5, b6⟩ := h.at_ h1 hr1
 have hrw : r.wr = true := by rw [a2]; exact hw
 obtain ⟨o1, o2⟩ := h.own j r hr hrw
 have hcase : ∀ b q, Zuz m { r with len := B0.cells.length, fix := false } b = some q → (b = 0 ∧ q = { r with len := B0.cells.length, fix := false }) ∨ (b = 1 ∧ q = r1) := by
  intro b q hq
  unfold Zuz at hq
  split at hq
  ·injection hq with hq; exact .inl ⟨by assumption, hq.symm⟩
  ·split at hq
   ·rw [hr1] at hq; injection hq with hq; exact .inr ⟨by assumption, hq.symm⟩
   ·cases hq
 have hblk : ∀ (b : Nat) (x : Blk), [B0, B1][b]? = some x → (b = 0 ∧ x = B0) ∨ (b = 1 ∧ x = B1) := by
  intro b x hx
  match b with
  | 0 => injection hx with hx; exact .inl ⟨rfl, hx.symm⟩
  | 1 => injection hx with hx; exact .inr ⟨rfl, hx.symm⟩
  | b + 2 => simp at hx
 refine ⟨?_, ?_, ?_, ?_, ?_, ?_, ?_, h.glob, ?_⟩
 ·intro b q hq
  rcases hcase b q hq with ⟨rfl, rfl⟩ | ⟨rfl, rfl⟩
  ·exact ⟨B0, rfl, by rw [hs]; exact a1, by simp only; rw [hrw, hw0], by simp only; rw [hf], rfl, by simp only; rw [a5, hs], by simp only; rw [a6, hm]⟩
  ·exact ⟨B1, rfl, b1, b2, b3, b4, b5, b6⟩
 ·intro b x hx _
  rcases hblk b x hx with ⟨rfl, rfl⟩ | ⟨rfl, rfl⟩
  ·exact ⟨_, rfl⟩
  ·exact ⟨r1, hr1⟩
 ·intro b x q i v hx hq hv
  rcases hblk b x hx with ⟨rfl, rfl⟩ | ⟨rfl, rfl⟩
  ·rcases hcase 0 q hq with ⟨_, rfl⟩ | ⟨hh, _⟩
   ·have hi : i < x.cells.length := (List.getElem?_eq_some_iff.1 hv).1
    have hv2 : X.cells[i]? = some v := by rw [hc, List.getElem?_take, if_pos hi] at hv; exact hv
    obtain ⟨v', g1, g2⟩ := h.cell j X r i v hX hr hv2
    have hpv := hp0 v (List.mem_of_getElem? hv)
    exact ⟨v', g1, by rw [g2.pure hpv]; exact CR.of_pure hpv⟩
   ·cases hh
  ·rcases hcase 1 q hq with ⟨hh, _⟩ | ⟨_, rfl⟩
   ·cases hh
   ·obtain ⟨v', g1, g2⟩ := h.cell 1 x q i v h1 hr1 hv
    have hpv := h.pur 1 x h1 hp1 v (List.mem_of_getElem? hv)
    exact ⟨v', g1, by rw [g2.pure hpv]; exact CR.of_pure hpv⟩
 ·intro b x hx hp
  rcases hblk b x hx with ⟨rfl, rfl⟩ | ⟨rfl, rfl⟩
  ·exact hp0
  ·exact h.pur 1 x h1 hp
 ·intro b q hq hqw
  rcases hcase b q hq with ⟨rfl, rfl⟩ | ⟨rfl, rfl⟩
  ·exact ⟨by simp only; omega, o2⟩
  ·exact h.own 1 q hr1 hqw
 ·intro b q hq hqw
  rcases hcase b q hq with ⟨rfl, rfl⟩ | ⟨rfl, rfl⟩
  ·exact h.clean j r hr hrw
  ·exact h.clean 1 q hr1 hqw
 ·intro b b' q q' hne hq hq' hqw
  rcases hcase b q hq with ⟨rfl, rfl⟩ | ⟨rfl, rfl⟩
  ·rcases hcase b' q' hq' with ⟨rfl, rfl⟩ | ⟨rfl, rfl⟩
   ·exact absurd rfl hne
   ·exact h.dis j 1 r q' hj hr hr1 hrw
  ·rcases hcase b' q' hq' with ⟨rfl, rfl⟩ | ⟨rfl, rfl⟩
   ·intro hg k k1 k2 k3 k4
    have := h.dis 1 j q r (fun e => hj e.symm) hr1 hr hqw hg k k1 k2 k3
    refine this ?_
    unfold Reg.ext at k4 ⊢
    simp only [hrw, if_true] at k4 ⊢
    exact k4
   ·exact absurd rfl hne
 ·intro b q k hq hqw
  rcases hcase b q hq with ⟨rfl, rfl⟩ | ⟨rfl, rfl⟩
  ·exact h.gwr j r k hr hrw
  ·exact h.gwr 1 q k hr1 hqw
end
section
variable {P : Program} {G : Glob} {α : Type} {cod : Cod α}
theorem Z3f {m : MapM} {r0 r2 : Reg} (h : m 0 = some r0) (hw : r0.wr = true) (hg : r2.g = r0.g) (hl : r2.lo = r0.lo) (hh : r2.hi = r0.hi) {g j : Nat} (q : Zk9 (Zgv m 0 r2) g j) : Zk9 m g j := by
 obtain ⟨b, r, h1, h2, h3, h4, h5⟩ := q
 by_cases hb : b = 0
 ·subst hb; rw [Zcv] at h1; injection h1 with h1; subst h1
  exact ⟨0, r0, h, hw, by rw [← hg]; exact h3, by rw [← hl]; exact h4, by rw [← hh]; exact h5⟩
 ·rw [Zdi _ _ hb] at h1; exact ⟨b, r, h1, h2, h3, h4, h5⟩
theorem Frame.pick {m m' : MapM} {w w' : World} {r0 r2 rj q r1 : Reg} {j : Nat} (h0 : m 0 = some r0) (hw : r0.wr = true) (hv : r0.mv = true) (h1 : m 1 = some r1) (hdom : ∀ b, 2 ≤ b → m b = none) (hg : r2.g = r0.g) (hl : r2.lo = r0.lo) (hh : r2.hi = r0.hi)
    (h : Frame ⟨Zgv m 0 r2, w, []⟩ m' w') (hj : m' j = some rj) (qg : q.g = rj.g) (ql : q.lo = rj.lo) (qh : q.hi = rj.hi) (qw : q.wr = rj.wr) : Frame ⟨m, w, []⟩ (Zuz m' q) w' := by
  have hW : ∀ g j, Zk9 (Zgv m 0 r2) g j → Zk9 m g j := fun g j => Z3f h0 hw hg hl hh
  refine ⟨h.os, h.tape, h.output, h.size, ?_, ?_, ?_⟩
  · intro g o ho
    obtain ⟨o', k1, k2⟩ := h.block g o ho
    refine ⟨o', k1, ?_⟩
    rcases k2 with k2 | ⟨c, t, fr, c', e1, e2, e3, e4⟩
    · exact .inl k2
    · exact .inr ⟨c, t, fr, c', e1, e2, e3, fun j hn => e4 j fun hx => hn (hW _ _ hx)⟩
  · intro b r hr hrw hlt
    unfold Zuz at hr
    split at hr
    · injection hr with hr; subst hr
      rcases h.reg j rj hj (by rw [← qw]; exact hrw) (by omega) with k | k
      · left; rw [qg]; exact k
      · right; intro z z1 z2; rw [qg]; exact hW _ _ (k z (by omega) (by omega))
    · split at hr
      · rcases h.reg 1 r hr hrw hlt with k | k
        · exact .inl k
        · exact .inr fun z z1 z2 => hW _ _ (k z z1 z2)
      · cases hr
  · intro b r hr hk
    simp only at hr
    match b with
    | 0 => rw [h0] at hr; injection hr with hr; subst hr; rw [hw, hv] at hk; rcases hk with hk | hk <;> cases hk
    | 1 =>
      have := h.keep 1 r (by show Zgv m 0 r2 1 = _; rw [Zdi _ _ (by decide)]; exact hr) hk
      exact this
    | b + 2 => rw [hdom _ (by omega)] at hr; cases hr
def rwL (c : Cod α) (l : List α) : Blk := { cells := c.row l, sz := c.n, wr := true, fix := false, mv := false, pur := true }
end

section
variable {P : Program} {α : Type} {cod : Cod α} {H : List Blk} {t : TypeId} {by_ : Nat} {zc : List Value}
end
section
variable {P : Program} {α : Type} {H : List Blk} {t : TypeId} {by_ : Nat} {zc : List Value}
end
end Go.Flat
end
