/- Walks. -/
import Derived.Test.YtfjkagjbanhdlaaDoorT1
import Derived.Test.YtfjkagjbanhdlaaDoorK1
import Derived.Test.YtfjkagjbanhdlaaDoorH10
set_option linter.unusedVariables false
set_option linter.unusedSimpArgs false
set_option maxRecDepth 20000
namespace Go.Flat
open Go.Proofs
variable {G : Glob}
def Zfc (h : Signed) : Entry := ⟨2, 0, 0, ⟨#[]⟩, h, (⟨0, 0, 0, 0, dz⟩ : Claim)⟩
def Zjq (kk : Nat → BitVec 32) (master : D) : Signed → List PStep → Int
  | _, [] => 0
  | h, y :: l => if Z1 kk master y = 0 then (if Zcw y.item.entry (Zfc h) = true then Zjq kk master y.head l else 130) else Z1 kk master y
def Zct (kk : Nat → BitVec 32) (master : D) : List PStep → Int
  | [] => 130
  | x :: l => if Z1 kk master x = 0 then Zjq kk master x.head l else Z1 kk master x
section
variable {kk : Nat → BitVec 32} {m : D} {x y z : PStep}
theorem Zfq {l : List PStep} : Zct kk m (x :: l) = if Z1 kk m x = 0 then Zjq kk m x.head l else Z1 kk m x := rfl
theorem Zds {h : Signed} {l : List PStep} : Zjq kk m h (y :: l) = if Z1 kk m y = 0 then (if Zcw y.item.entry (Zfc h) = true then Zjq kk m y.head l else 130) else Z1 kk m y := by rw [Zjq]
theorem Zll {h : Signed} : Zjq kk m h [] = 0 := by rw [Zjq]
theorem Zhw : Zct kk m [x] = Z1 kk m x := by
 rw [Zfq]
 split
 ·rename_i h; rw [h, Zll]
 ·rfl
theorem Zf9 (h : ¬ Z1 kk m x = 0) : Zct kk m [x, y] = Z1 kk m x := if_neg h
theorem Zgd (h : Z1 kk m x = 0) (h2 : ¬ Z1 kk m y = 0) : Zct kk m [x, y] = Z1 kk m y := by rw [Zfq, if_pos h, Zds, if_neg h2]
theorem Ze5 (h : Z1 kk m x = 0) (h2 : Z1 kk m y = 0) (h3 : Zcw y.item.entry (Zfc x.head) = false) : Zct kk m [x, y] = 130 := by
 rw [Zfq, if_pos h, Zds, if_pos h2, if_neg (by rw [h3]; decide)]
theorem Zf1 (h : Z1 kk m x = 0) (h2 : Z1 kk m y = 0) (h3 : Zcw y.item.entry (Zfc x.head) = true) : Zct kk m [x, y] = Z1 kk m y := by
 rw [Zfq, if_pos h, Zds, if_pos h2, if_pos h3, Zll, h2]
theorem Zf6 (h : ¬ Z1 kk m x = 0) : Zct kk m [x, y, z] = Z1 kk m x := if_neg h
theorem Zgg (h : Z1 kk m x = 0) (h2 : ¬ Z1 kk m y = 0) : Zct kk m [x, y, z] = Z1 kk m y := by rw [Zfq, if_pos h, Zds, if_neg h2]
theorem Zgc (h : Z1 kk m x = 0) (h2 : Z1 kk m y = 0) (h3 : Zcw y.item.entry (Zfc x.head) = false) : Zct kk m [x, y, z] = 130 := by
 rw [Zfq, if_pos h, Zds, if_pos h2, if_neg (by rw [h3]; decide)]
theorem Zpc (h : Z1 kk m x = 0) (h2 : Z1 kk m y = 0) (h3 : Zcw y.item.entry (Zfc x.head) = true) : Zct kk m [x, y, z] = Zjq kk m y.head [z] := by
 rw [Zfq, if_pos h, Zds, if_pos h2, if_pos h3]
theorem Zga (h : Z1 kk m x = 0) (h2 : Z1 kk m y = 0) (h3 : Zcw y.item.entry (Zfc x.head) = true) (h4 : ¬ Z1 kk m z = 0) : Zct kk m [x, y, z] = Z1 kk m z := by rw [Zpc h h2 h3, Zds, if_neg h4]
theorem Zf2 (h : Z1 kk m x = 0) (h2 : Z1 kk m y = 0) (h3 : Zcw y.item.entry (Zfc x.head) = true) (h4 : Z1 kk m z = 0) (h5 : Zcw z.item.entry (Zfc y.head) = false) : Zct kk m [x, y, z] = 130 := by
 rw [Zpc h h2 h3, Zds, if_pos h4, if_neg (by rw [h5]; decide)]
theorem Zfj (h : Z1 kk m x = 0) (h2 : Z1 kk m y = 0) (h3 : Zcw y.item.entry (Zfc x.head) = true) (h4 : Z1 kk m z = 0) (h5 : Zcw z.item.entry (Zfc y.head) = true) : Zct kk m [x, y, z] = Z1 kk m z := by
 rw [Zpc h h2 h3, Zds, if_pos h4, if_pos h5, Zll, h4]
end
theorem Zt0  : Zaf Tryd.prog G 29 [.slice none 0 0] [] (Iv 130) [] := by
 refine Zbj (fn := Tryd.f29) (nt := 11) rfl rfl rfl rfl ?_
 refine Zg (Zj (Zd rfl rfl (Iv 0) rfl (Zb (Zc (Zg (Zg (Zj (Zf rfl rfl (.slice none 0 0) rfl ?_))))))))
 refine Zbl (p := .slice none 0 0) (v := Iv 0) rfl rfl rfl rfl ?_
 refine Zo (vx := Iv 0) (vy := Iv 0) rfl rfl (.bool true) rfl rfl (Zdd (by omega)) ?_
 refine Zf rfl rfl (.bool true) rfl (Zi rfl rfl (Zi rfl rfl (Zi rfl rfl (Zm rfl rfl (.bool true) rfl (Zb (Zc (Z0 rfl (Zg (Zj (Zd rfl rfl (Iv 130) rfl (Zb (Zc (Zx (Zaa (Zy ?_)))))))))))))))
 exact Zq (v := Iv 130) rfl rfl rfl (by kernel_rfl) rfl
theorem Zur (x1 : PStep) (n1 c1 : Nat) (hn1 : x1.proof.length = n1) (hc1 : n1 ≤ c1) (hb1 : n1 ≤ 1000) (c : Nat) (hc : 1 ≤ c) : Zaf Tryd.prog G 29 [slv 0 0 1 c] [mxR 181 ([Iv x1.index] ++ (Zh x1.item ++ ([slv 1 0 n1 c1] ++ (Za x1.head)))), dsR x1.proof] (Iv 0) [mxR 181 ([Iv x1.index] ++ (Zh x1.item ++ ([slv 1 0 n1 c1] ++ (Za x1.head)))), dsR x1.proof] := by
 refine Zbj (fn := Tryd.f29) (nt := 11) rfl rfl rfl rfl ?_
 refine Zg (Zj (Zd rfl rfl (Iv 0) rfl (Zb (Zc (Zg (Zg (Zj (Zf rfl rfl (slv 0 0 1 c) rfl ?_))))))))
 refine Zbl (p := slv 0 0 1 c) (v := Iv 1) rfl rfl rfl rfl ?_
 refine Zo (vx := Iv 1) (vy := Iv 0) rfl rfl (.bool false) rfl rfl (Zf5 (by omega)) ?_
 refine Zf rfl rfl (.bool false) rfl (Zf rfl rfl (slv 0 0 1 c) rfl ?_)
 refine Zbl (p := slv 0 0 1 c) (v := Iv 1) rfl rfl rfl rfl ?_
 refine Zo (vx := Iv 1) (vy := Iv 5) rfl rfl (.bool false) rfl rfl (Zek (by omega)) ?_
 refine Zm rfl rfl (.bool false) rfl (Zb (Zc (Zz rfl (Z5 (Zc (Zg (Zj (Zd rfl rfl (Iv 0) rfl (Zb (Zc (Zx (Zy ?_))))))))))))
 exact Zq (v := Iv 0) rfl rfl rfl (by kernel_rfl) rfl
theorem Zzr (x1 : PStep) (n1 c1 : Nat) (hn1 : x1.proof.length = n1) (hc1 : n1 ≤ c1) (hb1 : n1 ≤ 1000) (x2 : PStep) (n2 c2 : Nat) (hn2 : x2.proof.length = n2) (hc2 : n2 ≤ c2) (hb2 : n2 ≤ 1000) (c : Nat) (hc : 2 ≤ c) : Zaf Tryd.prog G 29 [slv 0 0 2 c] [mxR 181 ([Iv x1.index] ++ (Zh x1.item ++ ([slv 1 0 n1 c1] ++ (Za x1.head ++ ([Iv x2.index] ++ (Zh x2.item ++ ([slv 2 0 n2 c2] ++ (Za x2.head)))))))), dsR x1.proof, dsR x2.proof] (Iv 0) [mxR 181 ([Iv x1.index] ++ (Zh x1.item ++ ([slv 1 0 n1 c1] ++ (Za x1.head ++ ([Iv x2.index] ++ (Zh x2.item ++ ([slv 2 0 n2 c2] ++ (Za x2.head)))))))), dsR x1.proof, dsR x2.proof] := by
 refine Zbj (fn := Tryd.f29) (nt := 11) rfl rfl rfl rfl ?_
 refine Zg (Zj (Zd rfl rfl (Iv 0) rfl (Zb (Zc (Zg (Zg (Zj (Zf rfl rfl (slv 0 0 2 c) rfl ?_))))))))
 refine Zbl (p := slv 0 0 2 c) (v := Iv 2) rfl rfl rfl rfl ?_
 refine Zo (vx := Iv 2) (vy := Iv 0) rfl rfl (.bool false) rfl rfl (Zf5 (by omega)) ?_
 refine Zf rfl rfl (.bool false) rfl (Zf rfl rfl (slv 0 0 2 c) rfl ?_)
 refine Zbl (p := slv 0 0 2 c) (v := Iv 2) rfl rfl rfl rfl ?_
 refine Zo (vx := Iv 2) (vy := Iv 5) rfl rfl (.bool false) rfl rfl (Zek (by omega)) ?_
 refine Zm rfl rfl (.bool false) rfl (Zb (Zc (Zz rfl (Z5 (Zc (Zg (Zj (Zd rfl rfl (Iv 0) rfl (Zb (Zc (Zx (Zy ?_))))))))))))
 exact Zq (v := Iv 0) rfl rfl rfl (by kernel_rfl) rfl
theorem Zv8 (kk : Nat → BitVec 32) (hG : G 0 = some (Zad w32 64 kk)) (master : D)  : Zaf Tryd.prog G 12 [dgV master, .slice none 0 0] [] (Iv 130) [] := by
 refine Zbj (fn := Tryd.f12) (nt := 48) rfl rfl rfl rfl ?_
 refine Zai 1 (H' := [hole]) rfl ?_
 refine Zg (Zj ?_)
 refine Zcj (v := dgV master) (b := dgB master) (nid := 0) (H' := [dgB master]) rfl rfl rfl (by kernel_rfl) (by kernel_rfl) ?_
 refine Zd rfl rfl (Iv 0) rfl (Zb (Zc ?_))
 refine Zoc (l := 0) rfl ?_
 refine Zg (Zj (Zf rfl rfl (.slice none 0 0) rfl ?_))
 refine Z4 (e := []) (nid := 0) (Zt0 (G := G)) (vals := [.slice none 0 0]) (v := Iv 130) (H' := [dgB master]) rfl rfl rfl rfl rfl rfl rfl ⟨⟨rfl, trivial⟩, trivial, rfl, rfl, rfl⟩ rfl (by kernel_rfl) ?_
 refine Zd rfl rfl (Iv 130) rfl (Zb (Zc (Zg (Zok (Zc (Zg (Zg (Zj (Zf rfl rfl (.slice none 0 0) rfl ?_)))))))))
 refine Zbl (p := .slice none 0 0) (v := Iv 0) rfl rfl rfl rfl ?_
 refine Zf rfl rfl (Iv 0) rfl (Zb (Zc (Z7 ?_)))
 refine Zl7 1 ?_
 refine Zd0 (Zg (Zj ?_))
 refine Zo (vx := Iv 0) (vy := Iv 0) rfl rfl (.bool false) rfl rfl (Zce (by omega)) ?_
 refine Zb (Zc (Zg (Zz rfl (Zbe (Zam (Zau (Zas rfl (Zc (Zg (Zj (Zf rfl rfl (Iv 130) rfl (Zd rfl rfl (Iv 130) rfl (Zb (Zc (Zx (Zei (Zy ?_)))))))))))))))))
 exact Zq (v := Iv 130) rfl rfl rfl (by kernel_rfl) rfl
theorem Zv7 (kk : Nat → BitVec 32) (hG : G 0 = some (Zad w32 64 kk)) (master : D) (x1 : PStep) (n1 c1 : Nat) (hn1 : x1.proof.length = n1) (hc1 : n1 ≤ c1) (hb1 : n1 ≤ 1000) (hx1 : (-9223372036854775808 ≤ x1.index ∧ x1.index ≤ 9223372036854775807) ∧ -9223372036854775808 ≤ x1.head.head.size ∧ x1.head.head.size ≤ 9223372036854775807) (c : Nat) (hc : 1 ≤ c) : Zaf Tryd.prog G 12 [dgV master, slv 0 0 1 c] [mxR 181 ([Iv x1.index] ++ (Zh x1.item ++ ([slv 1 0 n1 c1] ++ (Za x1.head)))), dsR x1.proof] (Iv (Zct kk master [x1])) [mxR 181 ([Iv x1.index] ++ (Zh x1.item ++ ([slv 1 0 n1 c1] ++ (Za x1.head)))), dsR x1.proof] := by
  refine Zbj (fn := Tryd.f12) (nt := 48) rfl rfl rfl rfl ?_
  refine Zai 2 (H' := [mxR 181 ([Iv x1.index] ++ (Zh x1.item ++ ([slv 1 0 n1 c1] ++ (Za x1.head)))), dsR x1.proof, hole, hole]) rfl ?_
  refine Zg (Zj ?_)
  refine Zcj (v := dgV master) (b := dgB master) (nid := 2) (H' := [mxR 181 ([Iv x1.index] ++ (Zh x1.item ++ ([slv 1 0 n1 c1] ++ (Za x1.head)))), dsR x1.proof, dgB master, hole]) rfl rfl rfl (by kernel_rfl) (by kernel_rfl) ?_
  refine Zd rfl rfl (Iv 0) rfl (Zb (Zc ?_))
  refine Zoc (l := 0) rfl ?_
  refine Zg (Zj (Zf rfl rfl (slv 0 0 1 c) rfl ?_))
  refine Z4 (e := [some (0, 0), some (1, 0)]) (nid := 0) (Zur (G := G) x1 n1 c1 hn1 (by omega) (by omega) c (by omega)) (vals := [slv 0 0 1 c]) (v := Iv 0) (H' := [mxR 181 ([Iv x1.index] ++ (Zh x1.item ++ ([slv 1 0 n1 c1] ++ (Za x1.head)))), dsR x1.proof, dgB master, hole]) rfl rfl rfl rfl rfl rfl rfl ⟨⟨⟨rfl, rfl, rfl, by omega, by omega⟩, trivial⟩, ⟨(Zc5 rfl rfl (Nat.le_of_eq (by kernel_rfl)) (by kernel_rfl)), (Zdw rfl), trivial⟩, rfl, rfl, rfl⟩ rfl (by kernel_rfl) ?_
  refine Zd rfl rfl (Iv 0) rfl (Zb (Zc (Zg (Zok (Zc (Zg (Zg (Zj (Zf rfl rfl (slv 0 0 1 c) rfl ?_)))))))))
  refine Zbl (p := slv 0 0 1 c) (v := Iv 1) rfl rfl rfl rfl ?_
  refine Zf rfl rfl (Iv 0) rfl (Zb (Zc (Z7 ?_)))
  refine Zl7 2 ?_
  refine Zd0 (Zg (Zj ?_))
  refine Zo (vx := Iv 0) (vy := Iv 1) rfl rfl (.bool true) rfl rfl (Zco (by omega)) ?_
  refine Zb (Zc (Zg (Z0 rfl (Z5 (Zc (Zg (Z7 (Zg (Zj (Zf rfl rfl (Iv 0) rfl ?_))))))))))
  refine Zba (b := 0) (o := 0) (j := 0) (m := 1) (c := c) (sz := 181) (i := 0) (k := .i64) rfl rfl rfl rfl rfl (by omega) (by omega) (by omega) ?_
  refine Zp (p := pt 0 0) (v := mxV ([Iv x1.index] ++ (Zh x1.item ++ ([slv 1 0 n1 c1] ++ (Za x1.head))))) rfl rfl rfl (by kernel_rfl) ?_
  refine Z2 (b := mxB 181 ([Iv 0] ++ (Zh (⟨0, (⟨0, 0, 0, ⟨#[]⟩, (⟨(⟨0, 0, 0, dz, 0⟩ : Head), 0, dz⟩ : Signed), (⟨0, 0, 0, 0, dz⟩ : Claim)⟩ : Entry)⟩ : Item) ++ ([.slice none 0 0] ++ (Za (⟨(⟨0, 0, 0, dz, 0⟩ : Head), 0, dz⟩ : Signed)))))) (nid := 3) (H' := [mxR 181 ([Iv x1.index] ++ (Zh x1.item ++ ([slv 1 0 n1 c1] ++ (Za x1.head)))), dsR x1.proof, dgB master, mxB 181 ([Iv 0] ++ (Zh (⟨0, (⟨0, 0, 0, ⟨#[]⟩, (⟨(⟨0, 0, 0, dz, 0⟩ : Head), 0, dz⟩ : Signed), (⟨0, 0, 0, 0, dz⟩ : Claim)⟩ : Entry)⟩ : Item) ++ ([.slice none 0 0] ++ (Za (⟨(⟨0, 0, 0, dz, 0⟩ : Head), 0, dz⟩ : Signed)))))]) rfl rfl (by kernel_rfl) (by kernel_rfl) ?_
  refine Zd rfl rfl (Iv 0) rfl ?_
  refine Zw (p := pt 3 0) (v := mxV ([Iv x1.index] ++ (Zh x1.item ++ ([slv 1 0 n1 c1] ++ (Za x1.head))))) (b := 3) (blk := mxB 181 ([Iv x1.index] ++ (Zh x1.item ++ ([slv 1 0 n1 c1] ++ (Za x1.head))))) (H' := [mxR 181 ([Iv x1.index] ++ (Zh x1.item ++ ([slv 1 0 n1 c1] ++ (Za x1.head)))), dsR x1.proof, dgB master, mxB 181 ([Iv x1.index] ++ (Zh x1.item ++ ([slv 1 0 n1 c1] ++ (Za x1.head))))]) rfl rfl rfl (by kernel_rfl) (by kernel_rfl) ?_
  refine Zb (Zc (Z7 (Zg (Zj (Zf rfl rfl (Iv 0) rfl ?_)))))
  refine Zo (vx := Iv 0) (vy := Iv 0) rfl rfl (.bool false) rfl rfl (Zdb (by omega)) ?_
  refine Zd rfl rfl (.bool false) rfl (Zb (Zc (Zz rfl (Zg (Zj (Zf rfl rfl (Iv 0) rfl ?_))))))
  refine Zo (vx := Iv 0) (vy := Iv 0) rfl rfl (.bool false) rfl rfl (Zek (by omega)) ?_
  refine Zd rfl rfl (.bool false) rfl (Zb (Zc (Zz rfl (Zj ?_))))
  refine Zp (p := pt 2 0) (v := dgV master) rfl rfl rfl (by kernel_rfl) ?_
  refine Zp (p := pt 3 0) (v := mxV ([Iv x1.index] ++ (Zh x1.item ++ ([slv 1 0 n1 c1] ++ (Za x1.head))))) rfl rfl rfl (by kernel_rfl) ?_
  refine Z4 (e := [some (1, 0)]) (nid := 0) (Zi1 (G := G) kk hG master x1 n1 c1 hn1 (by omega) (by omega) (by first | omega | (dsimp only; omega))) (vals := [dgV master, mxV ([Iv x1.index] ++ (Zh x1.item ++ ([slv 1 0 n1 c1] ++ (Za x1.head))))]) (v := Iv (Z1 kk master x1)) (H' := [mxR 181 ([Iv x1.index] ++ (Zh x1.item ++ ([slv 1 0 n1 c1] ++ (Za x1.head)))), dsR x1.proof, dgB master, mxB 181 ([Iv x1.index] ++ (Zh x1.item ++ ([slv 1 0 n1 c1] ++ (Za x1.head))))]) rfl rfl rfl rfl rfl rfl rfl ⟨⟨rfl, (Zf8 (by kernel_rfl) (Zar ⟨⟨rfl, rfl⟩, trivial⟩ (Zar (Za9 (by kernel_rfl)) (Zar ⟨⟨rfl, rfl, rfl, by first | omega | exact Nat.le_refl _, by first | omega | exact Nat.le_refl _⟩, trivial⟩ (Za9 (by kernel_rfl)))))), trivial⟩, ⟨(Zdw rfl), trivial⟩, rfl, rfl, rfl⟩ rfl (by kernel_rfl) ?_
  refine Zd rfl rfl (Iv (Z1 kk master x1)) rfl (Zb (Z3 (Z3 (Zc (Zj ?_)))))
  refine Zo (vx := Iv 0) (vy := Iv 1) rfl rfl (Iv 1) rfl rfl (Zav (by omega) (by omega) (by omega)) ?_
  refine Zf rfl rfl (Iv 1) rfl (Zb (Zfg (Zd0 (Zg (Zj ?_)))))
  refine Zo (vx := Iv 1) (vy := Iv 1) rfl rfl (.bool false) rfl rfl (Zce (by omega)) ?_
  refine Zb (Zc (Zg (Zz rfl (Zbe (Zam (Zau (Zas rfl (Zc (Zg (Zj (Zf rfl rfl (Iv (Z1 kk master x1)) rfl (Zd rfl rfl (Iv (Z1 kk master x1)) rfl (Zb (Zc (Zx (Zei (Zy ?_)))))))))))))))))
  rw [show Zct kk master [x1] = (Z1 kk master x1) from by first | exact Zhw | exact Zf9 (by omega) | exact Zgd (by omega) (by omega) | exact Ze5 (by omega) (by omega) (by assumption) | exact Zf1 (by omega) (by omega) (by assumption) | exact Zf6 (by omega) | exact Zgg (by omega) (by omega) | exact Zgc (by omega) (by omega) (by assumption) | exact Zga (by omega) (by omega) (by assumption) (by omega) | exact Zf2 (by omega) (by omega) (by assumption) (by omega) (by assumption) | exact Zfj (by omega) (by omega) (by assumption) (by omega) (by assumption)]
  exact Zq (v := Iv (Z1 kk master x1)) rfl rfl rfl (by kernel_rfl) rfl
theorem Zor (kk : Nat → BitVec 32) (hG : G 0 = some (Zad w32 64 kk)) (master : D) (x1 : PStep) (n1 c1 : Nat) (hn1 : x1.proof.length = n1) (hc1 : n1 ≤ c1) (hb1 : n1 ≤ 1000) (hx1 : (-9223372036854775808 ≤ x1.index ∧ x1.index ≤ 9223372036854775807) ∧ -9223372036854775808 ≤ x1.head.head.size ∧ x1.head.head.size ≤ 9223372036854775807) (x2 : PStep) (n2 c2 : Nat) (hn2 : x2.proof.length = n2) (hc2 : n2 ≤ c2) (hb2 : n2 ≤ 1000) (hx2 : (-9223372036854775808 ≤ x2.index ∧ x2.index ≤ 9223372036854775807) ∧ -9223372036854775808 ≤ x2.head.head.size ∧ x2.head.head.size ≤ 9223372036854775807) (c : Nat) (hc : 2 ≤ c) : Zaf Tryd.prog G 12 [dgV master, slv 0 0 2 c] [mxR 181 ([Iv x1.index] ++ (Zh x1.item ++ ([slv 1 0 n1 c1] ++ (Za x1.head ++ ([Iv x2.index] ++ (Zh x2.item ++ ([slv 2 0 n2 c2] ++ (Za x2.head)))))))), dsR x1.proof, dsR x2.proof] (Iv (Zct kk master [x1, x2])) [mxR 181 ([Iv x1.index] ++ (Zh x1.item ++ ([slv 1 0 n1 c1] ++ (Za x1.head ++ ([Iv x2.index] ++ (Zh x2.item ++ ([slv 2 0 n2 c2] ++ (Za x2.head)))))))), dsR x1.proof, dsR x2.proof] := by
  refine Zbj (fn := Tryd.f12) (nt := 48) rfl rfl rfl rfl ?_
  refine Zai 4 (H' := [mxR 181 ([Iv x1.index] ++ (Zh x1.item ++ ([slv 1 0 n1 c1] ++ (Za x1.head ++ ([Iv x2.index] ++ (Zh x2.item ++ ([slv 2 0 n2 c2] ++ (Za x2.head)))))))), dsR x1.proof, dsR x2.proof, hole, hole, hole, hole]) rfl ?_
  refine Zg (Zj ?_)
  refine Zcj (v := dgV master) (b := dgB master) (nid := 3) (H' := [mxR 181 ([Iv x1.index] ++ (Zh x1.item ++ ([slv 1 0 n1 c1] ++ (Za x1.head ++ ([Iv x2.index] ++ (Zh x2.item ++ ([slv 2 0 n2 c2] ++ (Za x2.head)))))))), dsR x1.proof, dsR x2.proof, dgB master, hole, hole, hole]) rfl rfl rfl (by kernel_rfl) (by kernel_rfl) ?_
  refine Zd rfl rfl (Iv 0) rfl (Zb (Zc ?_))
  refine Zoc (l := 0) rfl ?_
  refine Zg (Zj (Zf rfl rfl (slv 0 0 2 c) rfl ?_))
  refine Z4 (e := [some (0, 0), some (1, 0), some (2, 0)]) (nid := 0) (Zzr (G := G) x1 n1 c1 hn1 (by omega) (by omega) x2 n2 c2 hn2 (by omega) (by omega) c (by omega)) (vals := [slv 0 0 2 c]) (v := Iv 0) (H' := [mxR 181 ([Iv x1.index] ++ (Zh x1.item ++ ([slv 1 0 n1 c1] ++ (Za x1.head ++ ([Iv x2.index] ++ (Zh x2.item ++ ([slv 2 0 n2 c2] ++ (Za x2.head)))))))), dsR x1.proof, dsR x2.proof, dgB master, hole, hole, hole]) rfl rfl rfl rfl rfl rfl rfl ⟨⟨⟨rfl, rfl, rfl, by omega, by omega⟩, trivial⟩, ⟨(Zc5 rfl rfl (Nat.le_of_eq (by kernel_rfl)) (by kernel_rfl)), (Zdw rfl), (Zdw rfl), trivial⟩, rfl, rfl, rfl⟩ rfl (by kernel_rfl) ?_
  refine Zd rfl rfl (Iv 0) rfl (Zb (Zc (Zg (Zok (Zc (Zg (Zg (Zj (Zf rfl rfl (slv 0 0 2 c) rfl ?_)))))))))
  refine Zbl (p := slv 0 0 2 c) (v := Iv 2) rfl rfl rfl rfl ?_
  refine Zf rfl rfl (Iv 0) rfl (Zb (Zc (Z7 ?_)))
  refine Zl7 3 ?_
  refine Zd0 (Zg (Zj ?_))
  refine Zo (vx := Iv 0) (vy := Iv 2) rfl rfl (.bool true) rfl rfl (Zco (by omega)) ?_
  refine Zb (Zc (Zg (Z0 rfl (Z5 (Zc (Zg (Z7 (Zg (Zj (Zf rfl rfl (Iv 0) rfl ?_))))))))))
  refine Zba (b := 0) (o := 0) (j := 0) (m := 2) (c := c) (sz := 181) (i := 0) (k := .i64) rfl rfl rfl rfl rfl (by omega) (by omega) (by omega) ?_
  refine Zp (p := pt 0 0) (v := mxV ([Iv x1.index] ++ (Zh x1.item ++ ([slv 1 0 n1 c1] ++ (Za x1.head))))) rfl rfl rfl (by kernel_rfl) ?_
  refine Z2 (b := mxB 181 ([Iv 0] ++ (Zh (⟨0, (⟨0, 0, 0, ⟨#[]⟩, (⟨(⟨0, 0, 0, dz, 0⟩ : Head), 0, dz⟩ : Signed), (⟨0, 0, 0, 0, dz⟩ : Claim)⟩ : Entry)⟩ : Item) ++ ([.slice none 0 0] ++ (Za (⟨(⟨0, 0, 0, dz, 0⟩ : Head), 0, dz⟩ : Signed)))))) (nid := 4) (H' := [mxR 181 ([Iv x1.index] ++ (Zh x1.item ++ ([slv 1 0 n1 c1] ++ (Za x1.head ++ ([Iv x2.index] ++ (Zh x2.item ++ ([slv 2 0 n2 c2] ++ (Za x2.head)))))))), dsR x1.proof, dsR x2.proof, dgB master, mxB 181 ([Iv 0] ++ (Zh (⟨0, (⟨0, 0, 0, ⟨#[]⟩, (⟨(⟨0, 0, 0, dz, 0⟩ : Head), 0, dz⟩ : Signed), (⟨0, 0, 0, 0, dz⟩ : Claim)⟩ : Entry)⟩ : Item) ++ ([.slice none 0 0] ++ (Za (⟨(⟨0, 0, 0, dz, 0⟩ : Head), 0, dz⟩ : Signed))))), hole, hole]) rfl rfl (by kernel_rfl) (by kernel_rfl) ?_
  refine Zd rfl rfl (Iv 0) rfl ?_
  refine Zw (p := pt 4 0) (v := mxV ([Iv x1.index] ++ (Zh x1.item ++ ([slv 1 0 n1 c1] ++ (Za x1.head))))) (b := 4) (blk := mxB 181 ([Iv x1.index] ++ (Zh x1.item ++ ([slv 1 0 n1 c1] ++ (Za x1.head))))) (H' := [mxR 181 ([Iv x1.index] ++ (Zh x1.item ++ ([slv 1 0 n1 c1] ++ (Za x1.head ++ ([Iv x2.index] ++ (Zh x2.item ++ ([slv 2 0 n2 c2] ++ (Za x2.head)))))))), dsR x1.proof, dsR x2.proof, dgB master, mxB 181 ([Iv x1.index] ++ (Zh x1.item ++ ([slv 1 0 n1 c1] ++ (Za x1.head)))), hole, hole]) rfl rfl rfl (by kernel_rfl) (by kernel_rfl) ?_
  refine Zb (Zc (Z7 (Zg (Zj (Zf rfl rfl (Iv 0) rfl ?_)))))
  refine Zo (vx := Iv 0) (vy := Iv 0) rfl rfl (.bool false) rfl rfl (Zdb (by omega)) ?_
  refine Zd rfl rfl (.bool false) rfl (Zb (Zc (Zz rfl (Zg (Zj (Zf rfl rfl (Iv 0) rfl ?_))))))
  refine Zo (vx := Iv 0) (vy := Iv 0) rfl rfl (.bool false) rfl rfl (Zek (by omega)) ?_
  refine Zd rfl rfl (.bool false) rfl (Zb (Zc (Zz rfl (Zj ?_))))
  refine Zp (p := pt 3 0) (v := dgV master) rfl rfl rfl (by kernel_rfl) ?_
  refine Zp (p := pt 4 0) (v := mxV ([Iv x1.index] ++ (Zh x1.item ++ ([slv 1 0 n1 c1] ++ (Za x1.head))))) rfl rfl rfl (by kernel_rfl) ?_
  refine Z4 (e := [some (1, 0)]) (nid := 0) (Zi1 (G := G) kk hG master x1 n1 c1 hn1 (by omega) (by omega) (by first | omega | (dsimp only; omega))) (vals := [dgV master, mxV ([Iv x1.index] ++ (Zh x1.item ++ ([slv 1 0 n1 c1] ++ (Za x1.head))))]) (v := Iv (Z1 kk master x1)) (H' := [mxR 181 ([Iv x1.index] ++ (Zh x1.item ++ ([slv 1 0 n1 c1] ++ (Za x1.head ++ ([Iv x2.index] ++ (Zh x2.item ++ ([slv 2 0 n2 c2] ++ (Za x2.head)))))))), dsR x1.proof, dsR x2.proof, dgB master, mxB 181 ([Iv x1.index] ++ (Zh x1.item ++ ([slv 1 0 n1 c1] ++ (Za x1.head)))), hole, hole]) rfl rfl rfl rfl rfl rfl rfl ⟨⟨rfl, (Zf8 (by kernel_rfl) (Zar ⟨⟨rfl, rfl⟩, trivial⟩ (Zar (Za9 (by kernel_rfl)) (Zar ⟨⟨rfl, rfl, rfl, by first | omega | exact Nat.le_refl _, by first | omega | exact Nat.le_refl _⟩, trivial⟩ (Za9 (by kernel_rfl)))))), trivial⟩, ⟨(Zdw rfl), trivial⟩, rfl, rfl, rfl⟩ rfl (by kernel_rfl) ?_
  refine Zd rfl rfl (Iv (Z1 kk master x1)) rfl (Zb (Z3 (Z3 (Zc (Zj ?_)))))
  refine Zo (vx := Iv 0) (vy := Iv 1) rfl rfl (Iv 1) rfl rfl (Zav (by omega) (by omega) (by omega)) ?_
  refine Zf rfl rfl (Iv 1) rfl (Zb (Zfg (Zd0 (Zg (Zj ?_)))))
  refine Zo (vx := Iv 1) (vy := Iv 2) rfl rfl (.bool true) rfl rfl (Zco (by omega)) ?_
  refine Zb (Zc (Zg (Z0 rfl (Z5 (Zc (Zg (Z7 (Zg (Zj (Zf rfl rfl (Iv 1) rfl ?_))))))))))
  refine Zba (b := 0) (o := 0) (j := 181) (m := 2) (c := c) (sz := 181) (i := 1) (k := .i64) rfl rfl rfl rfl rfl (by omega) (by omega) (by omega) ?_
  refine Zp (p := pt 0 181) (v := mxV ([Iv x2.index] ++ (Zh x2.item ++ ([slv 2 0 n2 c2] ++ (Za x2.head))))) rfl rfl rfl (by kernel_rfl) ?_
  refine Z2 (b := mxB 181 ([Iv 0] ++ (Zh (⟨0, (⟨0, 0, 0, ⟨#[]⟩, (⟨(⟨0, 0, 0, dz, 0⟩ : Head), 0, dz⟩ : Signed), (⟨0, 0, 0, 0, dz⟩ : Claim)⟩ : Entry)⟩ : Item) ++ ([.slice none 0 0] ++ (Za (⟨(⟨0, 0, 0, dz, 0⟩ : Head), 0, dz⟩ : Signed)))))) (nid := 5) (H' := [mxR 181 ([Iv x1.index] ++ (Zh x1.item ++ ([slv 1 0 n1 c1] ++ (Za x1.head ++ ([Iv x2.index] ++ (Zh x2.item ++ ([slv 2 0 n2 c2] ++ (Za x2.head)))))))), dsR x1.proof, dsR x2.proof, dgB master, mxB 181 ([Iv x1.index] ++ (Zh x1.item ++ ([slv 1 0 n1 c1] ++ (Za x1.head)))), mxB 181 ([Iv 0] ++ (Zh (⟨0, (⟨0, 0, 0, ⟨#[]⟩, (⟨(⟨0, 0, 0, dz, 0⟩ : Head), 0, dz⟩ : Signed), (⟨0, 0, 0, 0, dz⟩ : Claim)⟩ : Entry)⟩ : Item) ++ ([.slice none 0 0] ++ (Za (⟨(⟨0, 0, 0, dz, 0⟩ : Head), 0, dz⟩ : Signed))))), hole]) rfl rfl (by kernel_rfl) (by kernel_rfl) ?_
  refine Zd rfl rfl (Iv 1) rfl ?_
  refine Zw (p := pt 5 0) (v := mxV ([Iv x2.index] ++ (Zh x2.item ++ ([slv 2 0 n2 c2] ++ (Za x2.head))))) (b := 5) (blk := mxB 181 ([Iv x2.index] ++ (Zh x2.item ++ ([slv 2 0 n2 c2] ++ (Za x2.head))))) (H' := [mxR 181 ([Iv x1.index] ++ (Zh x1.item ++ ([slv 1 0 n1 c1] ++ (Za x1.head ++ ([Iv x2.index] ++ (Zh x2.item ++ ([slv 2 0 n2 c2] ++ (Za x2.head)))))))), dsR x1.proof, dsR x2.proof, dgB master, mxB 181 ([Iv x1.index] ++ (Zh x1.item ++ ([slv 1 0 n1 c1] ++ (Za x1.head)))), mxB 181 ([Iv x2.index] ++ (Zh x2.item ++ ([slv 2 0 n2 c2] ++ (Za x2.head)))), hole]) rfl rfl rfl (by kernel_rfl) (by kernel_rfl) ?_
  refine Zb (Zc (Z7 (Zg (Zj (Zf rfl rfl (Iv (Z1 kk master x1)) rfl ?_)))))
  by_cases h1 : (Z1 kk master x1) ≠ 0
  refine Zo (vx := Iv (Z1 kk master x1)) (vy := Iv 0) rfl rfl (.bool true) rfl rfl (Zdr (by omega)) ?_
  refine Zd rfl rfl (.bool true) rfl (Zb (Zc (Z0 rfl (Zbe (Zgf rfl (Zgf rfl (Zam (Zau (Zas rfl (Zc (Zg (Zj (Zf rfl rfl (Iv (Z1 kk master x1)) rfl (Zd rfl rfl (Iv (Z1 kk master x1)) rfl (Zb (Zc (Zx (Zei (Zy ?_)))))))))))))))))))
  rw [show Zct kk master [x1, x2] = (Z1 kk master x1) from by first | exact Zhw | exact Zf9 (by omega) | exact Zgd (by omega) (by omega) | exact Ze5 (by omega) (by omega) (by assumption) | exact Zf1 (by omega) (by omega) (by assumption) | exact Zf6 (by omega) | exact Zgg (by omega) (by omega) | exact Zgc (by omega) (by omega) (by assumption) | exact Zga (by omega) (by omega) (by assumption) (by omega) | exact Zf2 (by omega) (by omega) (by assumption) (by omega) (by assumption) | exact Zfj (by omega) (by omega) (by assumption) (by omega) (by assumption)]
  exact Zq (v := Iv (Z1 kk master x1)) rfl rfl rfl (by kernel_rfl) rfl
  refine Zo (vx := Iv (Z1 kk master x1)) (vy := Iv 0) rfl rfl (.bool false) rfl rfl (Zdb (by omega)) ?_
  refine Zd rfl rfl (.bool false) rfl (Zb (Zc (Zz rfl (Zg (Zj (Zf rfl rfl (Iv 1) rfl ?_))))))
  refine Zo (vx := Iv 1) (vy := Iv 0) rfl rfl (.bool true) rfl rfl (Zeh (by omega)) ?_
  refine Zd rfl rfl (.bool true) rfl (Zb (Zc (Z0 rfl (Zg (Zj (Zf rfl rfl (slv 0 0 2 c) rfl (Zf rfl rfl (Iv 1) rfl ?_)))))))
  refine Zo (vx := Iv 1) (vy := Iv 1) rfl rfl (Iv 0) rfl rfl (Zcv (by omega) (by omega) (by omega)) ?_
  refine Zba (b := 0) (o := 0) (j := 0) (m := 2) (c := c) (sz := 181) (i := 0) (k := .i64) rfl rfl rfl rfl rfl (by omega) (by omega) (by omega) ?_
  refine Zn (b := 0) (o := 0) (n := 112) (o' := 0 + 112) rfl rfl rfl rfl (by omega) ?_
  refine Zp (p := pt 0 (0 + 112)) (v := Zs x1.head) rfl rfl rfl (by kernel_rfl) ?_
  refine Za1 (vs := [(0, Iv 2), (4, Zs x1.head)]) (v := Zb0 (⟨2, 0, 0, ⟨#[]⟩, x1.head, (⟨0, 0, 0, 0, dz⟩ : Claim)⟩ : Entry)) rfl rfl rfl (by kernel_rfl) ?_
  refine Z2 (b := bxB 109 (Zb2 (⟨0, 0, 0, ⟨#[]⟩, (⟨(⟨0, 0, 0, dz, 0⟩ : Head), 0, dz⟩ : Signed), (⟨0, 0, 0, 0, dz⟩ : Claim)⟩ : Entry))) (nid := 6) (H' := [mxR 181 ([Iv x1.index] ++ (Zh x1.item ++ ([slv 1 0 n1 c1] ++ (Za x1.head ++ ([Iv x2.index] ++ (Zh x2.item ++ ([slv 2 0 n2 c2] ++ (Za x2.head)))))))), dsR x1.proof, dsR x2.proof, dgB master, mxB 181 ([Iv x1.index] ++ (Zh x1.item ++ ([slv 1 0 n1 c1] ++ (Za x1.head)))), mxB 181 ([Iv x2.index] ++ (Zh x2.item ++ ([slv 2 0 n2 c2] ++ (Za x2.head)))), bxB 109 (Zb2 (⟨0, 0, 0, ⟨#[]⟩, (⟨(⟨0, 0, 0, dz, 0⟩ : Head), 0, dz⟩ : Signed), (⟨0, 0, 0, 0, dz⟩ : Claim)⟩ : Entry))]) rfl rfl (by kernel_rfl) (by kernel_rfl) ?_
  refine Zw (p := pt 6 0) (v := Zb0 (⟨2, 0, 0, ⟨#[]⟩, x1.head, (⟨0, 0, 0, 0, dz⟩ : Claim)⟩ : Entry)) (b := 6) (blk := bxB 109 (Zb2 (⟨2, 0, 0, ⟨#[]⟩, x1.head, (⟨0, 0, 0, 0, dz⟩ : Claim)⟩ : Entry))) (H' := [mxR 181 ([Iv x1.index] ++ (Zh x1.item ++ ([slv 1 0 n1 c1] ++ (Za x1.head ++ ([Iv x2.index] ++ (Zh x2.item ++ ([slv 2 0 n2 c2] ++ (Za x2.head)))))))), dsR x1.proof, dsR x2.proof, dgB master, mxB 181 ([Iv x1.index] ++ (Zh x1.item ++ ([slv 1 0 n1 c1] ++ (Za x1.head)))), mxB 181 ([Iv x2.index] ++ (Zh x2.item ++ ([slv 2 0 n2 c2] ++ (Za x2.head)))), bxB 109 (Zb2 (⟨2, 0, 0, ⟨#[]⟩, x1.head, (⟨0, 0, 0, 0, dz⟩ : Claim)⟩ : Entry))]) rfl rfl rfl (by kernel_rfl) (by kernel_rfl) ?_
  refine Zb (Zc (Zg (Zj ?_)))
  refine Zp (p := pt 3 0) (v := dgV master) rfl rfl rfl (by kernel_rfl) ?_
  refine Zp (p := pt 5 0) (v := mxV ([Iv x2.index] ++ (Zh x2.item ++ ([slv 2 0 n2 c2] ++ (Za x2.head))))) rfl rfl rfl (by kernel_rfl) ?_
  refine Z4 (e := [some (2, 0)]) (nid := 0) (Zi1 (G := G) kk hG master x2 n2 c2 hn2 (by omega) (by omega) (by first | omega | (dsimp only; omega))) (vals := [dgV master, mxV ([Iv x2.index] ++ (Zh x2.item ++ ([slv 2 0 n2 c2] ++ (Za x2.head))))]) (v := Iv (Z1 kk master x2)) (H' := [mxR 181 ([Iv x1.index] ++ (Zh x1.item ++ ([slv 1 0 n1 c1] ++ (Za x1.head ++ ([Iv x2.index] ++ (Zh x2.item ++ ([slv 2 0 n2 c2] ++ (Za x2.head)))))))), dsR x1.proof, dsR x2.proof, dgB master, mxB 181 ([Iv x1.index] ++ (Zh x1.item ++ ([slv 1 0 n1 c1] ++ (Za x1.head)))), mxB 181 ([Iv x2.index] ++ (Zh x2.item ++ ([slv 2 0 n2 c2] ++ (Za x2.head)))), bxB 109 (Zb2 (⟨2, 0, 0, ⟨#[]⟩, x1.head, (⟨0, 0, 0, 0, dz⟩ : Claim)⟩ : Entry))]) rfl rfl rfl rfl rfl rfl rfl ⟨⟨rfl, (Zf8 (by kernel_rfl) (Zar ⟨⟨rfl, rfl⟩, trivial⟩ (Zar (Za9 (by kernel_rfl)) (Zar ⟨⟨rfl, rfl, rfl, by first | omega | exact Nat.le_refl _, by first | omega | exact Nat.le_refl _⟩, trivial⟩ (Za9 (by kernel_rfl)))))), trivial⟩, ⟨(Zdw rfl), trivial⟩, rfl, rfl, rfl⟩ rfl (by kernel_rfl) ?_
  refine Zd rfl rfl (Iv (Z1 kk master x2)) rfl (Zb (Zc (Zg (Zj (Zf rfl rfl (Iv (Z1 kk master x2)) rfl ?_)))))
  by_cases h2 : (Z1 kk master x2) = 0
  refine Zo (vx := Iv (Z1 kk master x2)) (vy := Iv 0) rfl rfl (.bool true) rfl rfl (Zdd (by omega)) ?_
  refine Zf rfl rfl (.bool true) rfl ?_
  refine Zn (b := 5) (o := 0) (n := 1) (o' := 1) rfl rfl rfl rfl rfl ?_
  refine Zn (b := 5) (o := 1) (n := 1) (o' := 2) rfl rfl rfl rfl rfl ?_
  refine Zp (p := pt 5 2) (v := Zb0 x2.item.entry) rfl rfl rfl (by kernel_rfl) ?_
  refine Zp (p := pt 6 0) (v := Zb0 (⟨2, 0, 0, ⟨#[]⟩, x1.head, (⟨0, 0, 0, 0, dz⟩ : Claim)⟩ : Entry)) rfl rfl rfl (by kernel_rfl) ?_
  rcases Bool.eq_false_or_eq_true (Zcw x2.item.entry (⟨2, 0, 0, ⟨#[]⟩, x1.head, (⟨0, 0, 0, 0, dz⟩ : Claim)⟩ : Entry)) with h3 | h3
  refine Zo (vx := Zb0 x2.item.entry) (vy := Zb0 (⟨2, 0, 0, ⟨#[]⟩, x1.head, (⟨0, 0, 0, 0, dz⟩ : Claim)⟩ : Entry)) rfl rfl (.bool false) rfl rfl (Eq.trans (Zhg x2.item.entry (⟨2, 0, 0, ⟨#[]⟩, x1.head, (⟨0, 0, 0, 0, dz⟩ : Claim)⟩ : Entry)) (by rw [h3] <;> rfl)) ?_
  refine Zm rfl rfl (.bool false) rfl (Zb (Zc (Zz rfl (Z5 (Z3 (Z3 (Zc (Zj ?_))))))))
  refine Zo (vx := Iv 1) (vy := Iv 1) rfl rfl (Iv 2) rfl rfl (Zav (by omega) (by omega) (by omega)) ?_
  refine Zf rfl rfl (Iv 2) rfl (Zb (Zfg (Zd0 (Zg (Zj ?_)))))
  refine Zo (vx := Iv 2) (vy := Iv 2) rfl rfl (.bool false) rfl rfl (Zce (by omega)) ?_
  refine Zb (Zc (Zg (Zz rfl (Zbe (Zam (Zau (Zas rfl (Zc (Zg (Zj (Zf rfl rfl (Iv (Z1 kk master x2)) rfl (Zd rfl rfl (Iv (Z1 kk master x2)) rfl (Zb (Zc (Zx (Zei (Zy ?_)))))))))))))))))
  rw [show Zct kk master [x1, x2] = (Z1 kk master x2) from by first | exact Zhw | exact Zf9 (by omega) | exact Zgd (by omega) (by omega) | exact Ze5 (by omega) (by omega) (by assumption) | exact Zf1 (by omega) (by omega) (by assumption) | exact Zf6 (by omega) | exact Zgg (by omega) (by omega) | exact Zgc (by omega) (by omega) (by assumption) | exact Zga (by omega) (by omega) (by assumption) (by omega) | exact Zf2 (by omega) (by omega) (by assumption) (by omega) (by assumption) | exact Zfj (by omega) (by omega) (by assumption) (by omega) (by assumption)]
  exact Zq (v := Iv (Z1 kk master x2)) rfl rfl rfl (by kernel_rfl) rfl
  refine Zo (vx := Zb0 x2.item.entry) (vy := Zb0 (⟨2, 0, 0, ⟨#[]⟩, x1.head, (⟨0, 0, 0, 0, dz⟩ : Claim)⟩ : Entry)) rfl rfl (.bool true) rfl rfl (Eq.trans (Zhg x2.item.entry (⟨2, 0, 0, ⟨#[]⟩, x1.head, (⟨0, 0, 0, 0, dz⟩ : Claim)⟩ : Entry)) (by rw [h3] <;> rfl)) ?_
  refine Zm rfl rfl (.bool true) rfl (Zb (Zc (Z0 rfl (Zj (Zd rfl rfl (Iv 130) rfl (Zb (Z3 (Z3 (Zc (Zj ?_))))))))))
  refine Zo (vx := Iv 1) (vy := Iv 1) rfl rfl (Iv 2) rfl rfl (Zav (by omega) (by omega) (by omega)) ?_
  refine Zf rfl rfl (Iv 2) rfl (Zb (Zfg (Zd0 (Zg (Zj ?_)))))
  refine Zo (vx := Iv 2) (vy := Iv 2) rfl rfl (.bool false) rfl rfl (Zce (by omega)) ?_
  refine Zb (Zc (Zg (Zz rfl (Zbe (Zam (Zau (Zas rfl (Zc (Zg (Zj (Zf rfl rfl (Iv 130) rfl (Zd rfl rfl (Iv 130) rfl (Zb (Zc (Zx (Zei (Zy ?_)))))))))))))))))
  rw [show Zct kk master [x1, x2] = 130 from by first | exact Zhw | exact Zf9 (by omega) | exact Zgd (by omega) (by omega) | exact Ze5 (by omega) (by omega) (by assumption) | exact Zf1 (by omega) (by omega) (by assumption) | exact Zf6 (by omega) | exact Zgg (by omega) (by omega) | exact Zgc (by omega) (by omega) (by assumption) | exact Zga (by omega) (by omega) (by assumption) (by omega) | exact Zf2 (by omega) (by omega) (by assumption) (by omega) (by assumption) | exact Zfj (by omega) (by omega) (by assumption) (by omega) (by assumption)]
  exact Zq (v := Iv 130) rfl rfl rfl (by kernel_rfl) rfl
  refine Zo (vx := Iv (Z1 kk master x2)) (vy := Iv 0) rfl rfl (.bool false) rfl rfl (Zf5 (by omega)) ?_
  refine Zf rfl rfl (.bool false) rfl (Zi rfl rfl (Zi rfl rfl (Zi rfl rfl (Zi rfl rfl (Zi rfl rfl (Zm rfl rfl (.bool false) rfl (Zb (Zc (Zz rfl (Z5 (Z3 (Z3 (Zc (Zj ?_))))))))))))))
  refine Zo (vx := Iv 1) (vy := Iv 1) rfl rfl (Iv 2) rfl rfl (Zav (by omega) (by omega) (by omega)) ?_
  refine Zf rfl rfl (Iv 2) rfl (Zb (Zfg (Zd0 (Zg (Zj ?_)))))
  refine Zo (vx := Iv 2) (vy := Iv 2) rfl rfl (.bool false) rfl rfl (Zce (by omega)) ?_
  refine Zb (Zc (Zg (Zz rfl (Zbe (Zam (Zau (Zas rfl (Zc (Zg (Zj (Zf rfl rfl (Iv (Z1 kk master x2)) rfl (Zd rfl rfl (Iv (Z1 kk master x2)) rfl (Zb (Zc (Zx (Zei (Zy ?_)))))))))))))))))
  rw [show Zct kk master [x1, x2] = (Z1 kk master x2) from by first | exact Zhw | exact Zf9 (by omega) | exact Zgd (by omega) (by omega) | exact Ze5 (by omega) (by omega) (by assumption) | exact Zf1 (by omega) (by omega) (by assumption) | exact Zf6 (by omega) | exact Zgg (by omega) (by omega) | exact Zgc (by omega) (by omega) (by assumption) | exact Zga (by omega) (by omega) (by assumption) (by omega) | exact Zf2 (by omega) (by omega) (by assumption) (by omega) (by assumption) | exact Zfj (by omega) (by omega) (by assumption) (by omega) (by assumption)]
  exact Zq (v := Iv (Z1 kk master x2)) rfl rfl rfl (by kernel_rfl) rfl
theorem Z12  : Zaf Tryd.prog G 16 [.slice none 0 0] [] (.tuple #[Zay (⟨0, (⟨0, 0, 0, ⟨#[]⟩, (⟨(⟨0, 0, 0, dz, 0⟩ : Head), 0, dz⟩ : Signed), (⟨0, 0, 0, 0, dz⟩ : Claim)⟩ : Entry)⟩ : Item), Zs (⟨(⟨0, 0, 0, dz, 0⟩ : Head), 0, dz⟩ : Signed), Iv 130]) [] := by
 refine Zbj (fn := Tryd.f16) (nt := 24) rfl rfl rfl rfl ?_
 refine Zai 2 (H' := [hole, hole]) rfl ?_
 refine Zg (Zj ?_)
 refine Z2 (b := bxB 110 (Zh (⟨0, (⟨0, 0, 0, ⟨#[]⟩, (⟨(⟨0, 0, 0, dz, 0⟩ : Head), 0, dz⟩ : Signed), (⟨0, 0, 0, 0, dz⟩ : Claim)⟩ : Entry)⟩ : Item))) (nid := 0) (H' := [bxB 110 (Zh (⟨0, (⟨0, 0, 0, ⟨#[]⟩, (⟨(⟨0, 0, 0, dz, 0⟩ : Head), 0, dz⟩ : Signed), (⟨0, 0, 0, 0, dz⟩ : Claim)⟩ : Entry)⟩ : Item)), hole]) rfl rfl (by kernel_rfl) (by kernel_rfl) ?_
 refine Z2 (b := bxB 69 (Za (⟨(⟨0, 0, 0, dz, 0⟩ : Head), 0, dz⟩ : Signed))) (nid := 1) (H' := [bxB 110 (Zh (⟨0, (⟨0, 0, 0, ⟨#[]⟩, (⟨(⟨0, 0, 0, dz, 0⟩ : Head), 0, dz⟩ : Signed), (⟨0, 0, 0, 0, dz⟩ : Claim)⟩ : Entry)⟩ : Item)), bxB 69 (Za (⟨(⟨0, 0, 0, dz, 0⟩ : Head), 0, dz⟩ : Signed))]) rfl rfl (by kernel_rfl) (by kernel_rfl) ?_
 refine Zd rfl rfl (Iv 0) rfl (Zb (Zc (Zg (Zg (Zj (Zf rfl rfl (.slice none 0 0) rfl ?_))))))
 refine Z4 (e := []) (nid := 0) (Zt0 (G := G)) (vals := [.slice none 0 0]) (v := Iv 130) (H' := [bxB 110 (Zh (⟨0, (⟨0, 0, 0, ⟨#[]⟩, (⟨(⟨0, 0, 0, dz, 0⟩ : Head), 0, dz⟩ : Signed), (⟨0, 0, 0, 0, dz⟩ : Claim)⟩ : Entry)⟩ : Item)), bxB 69 (Za (⟨(⟨0, 0, 0, dz, 0⟩ : Head), 0, dz⟩ : Signed))]) rfl rfl rfl rfl rfl rfl rfl ⟨⟨rfl, trivial⟩, trivial, rfl, rfl, rfl⟩ rfl (by kernel_rfl) ?_
 refine Zd rfl rfl (Iv 130) rfl (Zb (Zc (Zg (Zj (Zf rfl rfl (Iv 130) rfl ?_)))))
 refine Zo (vx := Iv 130) (vy := Iv 0) rfl rfl (.bool true) rfl rfl (Zdr (by omega)) ?_
 refine Zb (Zc (Z0 rfl (Zg (Zj ?_))))
 refine Za1 (vs := []) (v := Zay (⟨0, (⟨0, 0, 0, ⟨#[]⟩, (⟨(⟨0, 0, 0, dz, 0⟩ : Head), 0, dz⟩ : Signed), (⟨0, 0, 0, 0, dz⟩ : Claim)⟩ : Entry)⟩ : Item)) rfl rfl rfl (by kernel_rfl) ?_
 refine Za1 (vs := []) (v := Zs (⟨(⟨0, 0, 0, dz, 0⟩ : Head), 0, dz⟩ : Signed)) rfl rfl rfl (by kernel_rfl) ?_
 refine Zf rfl rfl (Iv 130) rfl ?_
 refine Zw (p := pt 0 0) (v := Zay (⟨0, (⟨0, 0, 0, ⟨#[]⟩, (⟨(⟨0, 0, 0, dz, 0⟩ : Head), 0, dz⟩ : Signed), (⟨0, 0, 0, 0, dz⟩ : Claim)⟩ : Entry)⟩ : Item)) (b := 0) (blk := bxB 110 (Zh (⟨0, (⟨0, 0, 0, ⟨#[]⟩, (⟨(⟨0, 0, 0, dz, 0⟩ : Head), 0, dz⟩ : Signed), (⟨0, 0, 0, 0, dz⟩ : Claim)⟩ : Entry)⟩ : Item))) (H' := [bxB 110 (Zh (⟨0, (⟨0, 0, 0, ⟨#[]⟩, (⟨(⟨0, 0, 0, dz, 0⟩ : Head), 0, dz⟩ : Signed), (⟨0, 0, 0, 0, dz⟩ : Claim)⟩ : Entry)⟩ : Item)), bxB 69 (Za (⟨(⟨0, 0, 0, dz, 0⟩ : Head), 0, dz⟩ : Signed))]) rfl rfl rfl (by kernel_rfl) (by kernel_rfl) ?_
 refine Zw (p := pt 1 0) (v := Zs (⟨(⟨0, 0, 0, dz, 0⟩ : Head), 0, dz⟩ : Signed)) (b := 1) (blk := bxB 69 (Za (⟨(⟨0, 0, 0, dz, 0⟩ : Head), 0, dz⟩ : Signed))) (H' := [bxB 110 (Zh (⟨0, (⟨0, 0, 0, ⟨#[]⟩, (⟨(⟨0, 0, 0, dz, 0⟩ : Head), 0, dz⟩ : Signed), (⟨0, 0, 0, 0, dz⟩ : Claim)⟩ : Entry)⟩ : Item)), bxB 69 (Za (⟨(⟨0, 0, 0, dz, 0⟩ : Head), 0, dz⟩ : Signed))]) rfl rfl rfl (by kernel_rfl) (by kernel_rfl) ?_
 refine Zd rfl rfl (Iv 130) rfl (Zb (Zc (Zx (Zaa (Zy ?_)))))
 exact Zq (v := .tuple #[Zay (⟨0, (⟨0, 0, 0, ⟨#[]⟩, (⟨(⟨0, 0, 0, dz, 0⟩ : Head), 0, dz⟩ : Signed), (⟨0, 0, 0, 0, dz⟩ : Claim)⟩ : Entry)⟩ : Item), Zs (⟨(⟨0, 0, 0, dz, 0⟩ : Head), 0, dz⟩ : Signed), Iv 130]) (by kernel_rfl) rfl rfl (by kernel_rfl) ⟨(Zgo (by kernel_rfl) rfl), (Zgo (by kernel_rfl) rfl), rfl, trivial⟩
theorem Z1j (x1 : PStep) (n1 c1 : Nat) (hn1 : x1.proof.length = n1) (hc1 : n1 ≤ c1) (hb1 : n1 ≤ 1000) (c : Nat) (hc : 1 ≤ c) : Zaf Tryd.prog G 16 [slv 0 0 1 c] [mxR 181 ([Iv x1.index] ++ (Zh x1.item ++ ([slv 1 0 n1 c1] ++ (Za x1.head)))), dsR x1.proof] (.tuple #[Zay x1.item, Zs x1.head, Iv 0]) [mxR 181 ([Iv x1.index] ++ (Zh x1.item ++ ([slv 1 0 n1 c1] ++ (Za x1.head)))), dsR x1.proof] := by
 refine Zbj (fn := Tryd.f16) (nt := 24) rfl rfl rfl rfl ?_
 refine Zai 2 (H' := [mxR 181 ([Iv x1.index] ++ (Zh x1.item ++ ([slv 1 0 n1 c1] ++ (Za x1.head)))), dsR x1.proof, hole, hole]) rfl ?_
 refine Zg (Zj ?_)
 refine Z2 (b := bxB 110 (Zh (⟨0, (⟨0, 0, 0, ⟨#[]⟩, (⟨(⟨0, 0, 0, dz, 0⟩ : Head), 0, dz⟩ : Signed), (⟨0, 0, 0, 0, dz⟩ : Claim)⟩ : Entry)⟩ : Item))) (nid := 2) (H' := [mxR 181 ([Iv x1.index] ++ (Zh x1.item ++ ([slv 1 0 n1 c1] ++ (Za x1.head)))), dsR x1.proof, bxB 110 (Zh (⟨0, (⟨0, 0, 0, ⟨#[]⟩, (⟨(⟨0, 0, 0, dz, 0⟩ : Head), 0, dz⟩ : Signed), (⟨0, 0, 0, 0, dz⟩ : Claim)⟩ : Entry)⟩ : Item)), hole]) rfl rfl (by kernel_rfl) (by kernel_rfl) ?_
 refine Z2 (b := bxB 69 (Za (⟨(⟨0, 0, 0, dz, 0⟩ : Head), 0, dz⟩ : Signed))) (nid := 3) (H' := [mxR 181 ([Iv x1.index] ++ (Zh x1.item ++ ([slv 1 0 n1 c1] ++ (Za x1.head)))), dsR x1.proof, bxB 110 (Zh (⟨0, (⟨0, 0, 0, ⟨#[]⟩, (⟨(⟨0, 0, 0, dz, 0⟩ : Head), 0, dz⟩ : Signed), (⟨0, 0, 0, 0, dz⟩ : Claim)⟩ : Entry)⟩ : Item)), bxB 69 (Za (⟨(⟨0, 0, 0, dz, 0⟩ : Head), 0, dz⟩ : Signed))]) rfl rfl (by kernel_rfl) (by kernel_rfl) ?_
 refine Zd rfl rfl (Iv 0) rfl (Zb (Zc (Zg (Zg (Zj (Zf rfl rfl (slv 0 0 1 c) rfl ?_))))))
 refine Z4 (e := [some (0, 0), some (1, 0)]) (nid := 0) (Zur (G := G) x1 n1 c1 hn1 (by omega) (by omega) c (by omega)) (vals := [slv 0 0 1 c]) (v := Iv 0) (H' := [mxR 181 ([Iv x1.index] ++ (Zh x1.item ++ ([slv 1 0 n1 c1] ++ (Za x1.head)))), dsR x1.proof, bxB 110 (Zh (⟨0, (⟨0, 0, 0, ⟨#[]⟩, (⟨(⟨0, 0, 0, dz, 0⟩ : Head), 0, dz⟩ : Signed), (⟨0, 0, 0, 0, dz⟩ : Claim)⟩ : Entry)⟩ : Item)), bxB 69 (Za (⟨(⟨0, 0, 0, dz, 0⟩ : Head), 0, dz⟩ : Signed))]) rfl rfl rfl rfl rfl rfl rfl ⟨⟨⟨rfl, rfl, rfl, by omega, by omega⟩, trivial⟩, ⟨(Zc5 rfl rfl (Nat.le_of_eq (by kernel_rfl)) (by kernel_rfl)), (Zdw rfl), trivial⟩, rfl, rfl, rfl⟩ rfl (by kernel_rfl) ?_
 refine Zd rfl rfl (Iv 0) rfl (Zb (Zc (Zg (Zj (Zf rfl rfl (Iv 0) rfl ?_)))))
 refine Zo (vx := Iv 0) (vy := Iv 0) rfl rfl (.bool false) rfl rfl (Zdb (by omega)) ?_
 refine Zb (Zc (Zz rfl (Z5 (Zc (Zg ?_)))))
 refine Zd9 (by kernel_rfl) ?_
 refine Zf rfl rfl (slv 0 0 1 c) rfl ?_
 refine Zba (b := 0) (o := 0) (j := 0) (m := 1) (c := c) (sz := 181) (i := 0) (k := .i64) rfl rfl rfl rfl rfl (by omega) (by omega) (by omega) ?_
 refine Zn (b := 0) (o := 0) (n := 1) (o' := 0 + 1) rfl rfl rfl rfl (by omega) ?_
 refine Zp (p := pt 0 (0 + 1)) (v := Zay x1.item) rfl rfl rfl (by kernel_rfl) ?_
 refine Zf rfl rfl (slv 0 0 1 c) rfl (Zf rfl rfl (slv 0 0 1 c) rfl ?_)
 refine Zbl (p := slv 0 0 1 c) (v := Iv 1) rfl rfl rfl rfl ?_
 refine Zo (vx := Iv 1) (vy := Iv 1) rfl rfl (Iv 0) rfl rfl (Zcv (by omega) (by omega) (by omega)) ?_
 refine Zba (b := 0) (o := 0) (j := 0) (m := 1) (c := c) (sz := 181) (i := 0) (k := .i64) rfl rfl rfl rfl rfl (by omega) (by omega) (by omega) ?_
 refine Zn (b := 0) (o := 0) (n := 112) (o' := 0 + 112) rfl rfl rfl rfl (by omega) ?_
 refine Zp (p := pt 0 (0 + 112)) (v := Zs x1.head) rfl rfl rfl (by kernel_rfl) ?_
 refine Zw (p := pt 2 0) (v := Zay x1.item) (b := 2) (blk := bxB 110 (Zh x1.item)) (H' := [mxR 181 ([Iv x1.index] ++ (Zh x1.item ++ ([slv 1 0 n1 c1] ++ (Za x1.head)))), dsR x1.proof, bxB 110 (Zh x1.item), bxB 69 (Za (⟨(⟨0, 0, 0, dz, 0⟩ : Head), 0, dz⟩ : Signed))]) rfl rfl rfl (by kernel_rfl) (by kernel_rfl) ?_
 refine Zw (p := pt 3 0) (v := Zs x1.head) (b := 3) (blk := bxB 69 (Za x1.head)) (H' := [mxR 181 ([Iv x1.index] ++ (Zh x1.item ++ ([slv 1 0 n1 c1] ++ (Za x1.head)))), dsR x1.proof, bxB 110 (Zh x1.item), bxB 69 (Za x1.head)]) rfl rfl rfl (by kernel_rfl) (by kernel_rfl) ?_
 refine Zd rfl rfl (Iv 0) rfl ?_
 refine Zc3 (Zgl [[], [0], [0, 1], [0, 1, 2], [], [], [5], [5, 6], [4, 5, 6, 7], [4, 5, 6, 7, 8], [4, 5, 6, 7, 8, 9], [0, 1, 2, 3], [0, 1, 2, 3, 4, 5, 6, 7, 8, 9, 10, 11], [0, 1, 2, 3, 4, 5, 6, 7, 8, 9, 10, 11, 12]] (by kernel_rfl) (by kernel_rfl)) ?_
 refine Zc (Zx (Zy ?_))
 exact Zq (v := .tuple #[Zay x1.item, Zs x1.head, Iv 0]) (by kernel_rfl) rfl rfl (by kernel_rfl) ⟨(Zgo (by kernel_rfl) rfl), (Zgo (by kernel_rfl) rfl), rfl, trivial⟩
end Go.Flat
namespace Go.Flat
open Go.Proofs
variable {G : Glob}
section
variable (kk : Nat → BitVec 32)
theorem Zub {α : Type} (l : List α) (x d : α) : (l ++ [x]).take ((l ++ [x]).length - 1) = l ∧ (l ++ [x]).getD ((l ++ [x]).length - 1) d = x ∧ 0 < (l ++ [x]).length := by
 refine ⟨by simp, ?_, by simp⟩
 rw [List.getD_eq_getElem?_getD]; simp
theorem Zwf {l : List D} {i k : Nat} (h : i < k) : (l.take k).getD i d0 = l.getD i d0 := by
 rw [List.getD_eq_getElem?_getD, List.getD_eq_getElem?_getD, List.getElem?_take, if_pos h]
theorem Zvk {l : List D} {i k : Nat} (h : k ≤ i) : (l.drop k).getD (i - k) d0 = l.getD i d0 := by
 rw [List.getD_eq_getElem?_getD, List.getD_eq_getElem?_getD, List.getElem?_drop]; congr 2; omega
theorem Zyt : ∀ (n : Nat) (l : List D) (i : Nat), l.length = n → i < n → ∃ w, Zif n i (Zc8 kk l i) = some w ∧ (knA kk (l.getD i d0) w).getD 0 d0 = Zb8 kk l := by
 intro n
 induction n using Nat.strongRecOn with
 | ind n ih =>
  intro l i hl hi
  by_cases h2 : 2 ≤ n
  ·obtain ⟨p1, p2⟩ := Zfk h2
   rw [Zyr kk (by omega), hl]
   by_cases hk : i < Zap n
   ·rw [Zuq kk (by omega) (by rw [hl]; exact hk), hl]
    obtain ⟨q1, q2, q3⟩ := Zub (Zc8 kk (l.take (Zap n)) i) (Zb8 kk (l.drop (Zap n))) d0
    obtain ⟨w, w1, w2⟩ := ih (Zap n) p2 (l.take (Zap n)) i (by rw [List.length_take]; omega) hk
    rw [Zoj h2 q3 hk, q1, q2, w1]
    refine ⟨_, rfl, ?_⟩
    rw [Zwf hk] at w2
    simp only [knA, w2]
    rfl
   ·rw [Zux kk (by omega) (by rw [hl]; omega), hl]
    obtain ⟨q1, q2, q3⟩ := Zub (Zc8 kk (l.drop (Zap n)) (i - Zap n)) (Zb8 kk (l.take (Zap n))) d0
    obtain ⟨w, w1, w2⟩ := ih (n - Zap n) (by omega) (l.drop (Zap n)) (i - Zap n) (by rw [List.length_drop]; omega) (by omega)
    rw [Zoh h2 q3 (by omega), q1, q2, w1]
    refine ⟨_, rfl, ?_⟩
    rw [Zvk (by omega)] at w2
    simp only [knA, w2]
    rfl
  ·obtain rfl : n = 1 := by omega
   obtain rfl : i = 0 := by omega
   rw [Zmu kk 0 (by omega), Zj6 _ _ (by decide)]
   refine ⟨[], rfl, ?_⟩
   match l, hl with
   | [x], _ => rfl
theorem Zwn {l : List D} {n i : Nat} (hl : l.length = n) (hi : i < n) (hn : n ≤ 100000) : Zhs kk (Zb8 kk l) (l.getD i d0) (n : Nat) (i : Nat) (Zc8 kk l i) = 0 := by
 obtain ⟨w, w1, w2⟩ := Zyt kk n l i hl hi
 unfold Zhs
 rw [if_neg (by omega), show (n : Int).toNat = n from rfl, show (i : Int).toNat = i from rfl, w1]
 dsimp only
 rw [w2, Zt5]
 rfl
end
theorem Zqs : ∀ (l : List Item) (ep : Int) (i : Nat), Zdi ep l = true → i < l.length → Zc9 (l.getD i default)
 | [], _, i, _, h => absurd h (by simp)
 | x :: l, ep, 0, h, _ => by
  rw [Zdi, Bool.and_eq_true, Bool.and_eq_true] at h
  exact of_decide_eq_true h.1.1
 | x :: l, ep, i + 1, h, hi => by
  rw [Zdi, Bool.and_eq_true] at h
  exact Zqs l x.epoch i h.2 (by simpa using hi)
theorem Zws (kk : Nat → BitVec 32) (l : List Item) : ∀ (k i : Nat), i < k → (acL kk l k).getD i d0 = (Zao kk (l.getD i default)).1
 | 0, i, h => by omega
 | k + 1, i, h => by
  rw [acL]
  rcases Nat.lt_or_ge i k with q | q
  ·rw [List.getD_eq_getElem?_getD, List.getElem?_append_left (by rw [Zfh]; exact q), ← List.getD_eq_getElem?_getD]
   exact Zws kk l k i q
  ·obtain rfl : i = k := by omega
   rw [List.getD_eq_getElem?_getD, List.getElem?_append_right (by rw [Zfh]; exact Nat.le_refl _), Zfh, Nat.sub_self]; rfl
theorem Zxb {kk : Nat → BitVec 32} {l : List Item} {n : Int} (h : (Zah kk l n).2 = 0) : Zdj l ∧ 0 ≤ n ∧ n ≤ l.length ∧ Zah kk l n = (acL kk l n.toNat, 0) := by
 unfold Zah at h ⊢
 split at h
 ·rename_i h1
  split at h
  ·rename_i h2
   exact ⟨h1, h2.1, h2.2, by rw [if_pos h1, if_pos h2]⟩
  ·exact absurd h (by decide)
 ·exact absurd h (by decide)
theorem Z19 {kk : Nat → BitVec 32} {l : List Item} {i : Nat} (h : Zdj l) (hi : i < l.length) : (Zao kk (l.getD i default)).2 = 0 := by
 have : Zc9 (l.getD i default) := Zqs l 0 i h.2 hi
 rw [show Zao kk (l.getD i default) = (lfT kk (Zr (Zci (l.getD i default)).1), 0) from if_pos this]
theorem Z0z {kk : Nat → BitVec 32} {l : List Item} {n i : Int} (h : (Zl kk l n i).2 = 0) : 0 ≤ i ∧ i < l.length ∧ (Zae kk l n).2 = 0 ∧ (Zao kk (l.getD i.toNat default)).2 = 0 ∧ Zhs kk (Zae kk l n).1 (Zao kk (l.getD i.toNat default)).1 n i (Zl kk l n i).1 = 0 := by
 by_cases h0 : (Zah kk l n).2 = 0
 ·obtain ⟨g1, g2, g3, g4⟩ := Zxb h0
  have hlen : (Zah kk l n).1.length = n.toNat := by rw [g4]; exact Zfh _ _ _
  by_cases h1 : 0 ≤ i ∧ i < (Zah kk l n).1.length
  ·rw [hlen] at h1
   have er : Zae kk l n = (Zb8 kk (acL kk l n.toNat), 0) := by unfold Zae; rw [if_pos h0, g4]
   have ei : Zl kk l n i = (Zc8 kk (acL kk l n.toNat) i.toNat, 0) := by unfold Zl; rw [if_pos h0, hlen, if_pos h1, g4]
   rw [er, ei]
   refine ⟨h1.1, by omega, rfl, Z19 g1 (by omega), ?_⟩
   have := g1.1
   have hf := Zwn kk (l := acL kk l n.toNat) (n := n.toNat) (i := i.toNat) (Zfh _ _ _) (by omega) (by omega)
   rw [Zws kk l n.toNat i.toNat (by omega), show ((n.toNat : Nat) : Int) = n by omega, show ((i.toNat : Nat) : Int) = i by omega] at hf
   exact hf
  ·rw [show Zl kk l n i = ([], 20) from by unfold Zl; rw [if_pos h0, if_neg h1]] at h
   exact absurd h (by decide)
 ·rw [show Zl kk l n i = ([], (Zah kk l n).2) from by unfold Zl; rw [if_neg h0]] at h
  exact absurd h h0
end Go.Flat
