/- Walks. -/
import Derived.Test.YtfjkagjbanhdlaaGreatDoorT1
import Derived.Test.YtfjkagjbanhdlaaGreatDoorK2
import Derived.Test.YtfjkagjbanhdlaaGreatDoorH10
set_option linter.unusedVariables false
set_option linter.unusedSimpArgs false
set_option maxRecDepth 20000
namespace Go.Flat
open Go.Proofs
variable {G : Glob}
def Zik (h : Signed) : Entry := ⟨2, 0, 0, ⟨#[]⟩, h, (⟨0, 0, 0, 0, dz⟩ : Claim)⟩
def Zkf (kk : Nat → BitVec 32) (master : D) : Signed → List PStep → Int
  | _, [] => 0
  | h, y :: l => if Zar kk master y = 0 then (if Ze3 y.item.entry (Zik h) = true then Zkf kk master y.head l else 130) else Zar kk master y
def Zft (kk : Nat → BitVec 32) (master : D) : List PStep → Int
  | [] => 130
  | x :: l => if Zar kk master x = 0 then Zkf kk master x.head l else Zar kk master x
section
variable {kk : Nat → BitVec 32} {m : D} {x y z : PStep}
theorem Zgi {l : List PStep} : Zft kk m (x :: l) = if Zar kk m x = 0 then Zkf kk m x.head l else Zar kk m x := rfl
theorem Zej {h : Signed} {l : List PStep} : Zkf kk m h (y :: l) = if Zar kk m y = 0 then (if Ze3 y.item.entry (Zik h) = true then Zkf kk m y.head l else 130) else Zar kk m y := by rw [Zkf]
theorem Zmj {h : Signed} : Zkf kk m h [] = 0 := by rw [Zkf]
theorem Zrd : Zft kk m [x] = Zar kk m x := by
 rw [Zgi]
 split
 ·rename_i h; rw [h, Zmj]
 ·rfl
theorem Zny (h : ¬ Zar kk m x = 0) : Zft kk m [x, y] = Zar kk m x := if_neg h
theorem Zn9 (h : Zar kk m x = 0) (h2 : ¬ Zar kk m y = 0) : Zft kk m [x, y] = Zar kk m y := by rw [Zgi, if_pos h, Zej, if_neg h2]
theorem Zlm (h : Zar kk m x = 0) (h2 : Zar kk m y = 0) (h3 : Ze3 y.item.entry (Zik x.head) = false) : Zft kk m [x, y] = 130 := by
 rw [Zgi, if_pos h, Zej, if_pos h2, if_neg (by rw [h3]; decide)]
theorem Zof (h : Zar kk m x = 0) (h2 : Zar kk m y = 0) (h3 : Ze3 y.item.entry (Zik x.head) = true) : Zft kk m [x, y] = Zar kk m y := by
 rw [Zgi, if_pos h, Zej, if_pos h2, if_pos h3, Zmj, h2]
theorem Znr (h : ¬ Zar kk m x = 0) : Zft kk m [x, y, z] = Zar kk m x := if_neg h
theorem Znx (h : Zar kk m x = 0) (h2 : ¬ Zar kk m y = 0) : Zft kk m [x, y, z] = Zar kk m y := by rw [Zgi, if_pos h, Zej, if_neg h2]
theorem Zoe (h : Zar kk m x = 0) (h2 : Zar kk m y = 0) (h3 : Ze3 y.item.entry (Zik x.head) = false) : Zft kk m [x, y, z] = 130 := by
 rw [Zgi, if_pos h, Zej, if_pos h2, if_neg (by rw [h3]; decide)]
theorem Zq3 (h : Zar kk m x = 0) (h2 : Zar kk m y = 0) (h3 : Ze3 y.item.entry (Zik x.head) = true) : Zft kk m [x, y, z] = Zkf kk m y.head [z] := by
 rw [Zgi, if_pos h, Zej, if_pos h2, if_pos h3]
theorem Zn4 (h : Zar kk m x = 0) (h2 : Zar kk m y = 0) (h3 : Ze3 y.item.entry (Zik x.head) = true) (h4 : ¬ Zar kk m z = 0) : Zft kk m [x, y, z] = Zar kk m z := by rw [Zq3 h h2 h3, Zej, if_neg h4]
theorem Znz (h : Zar kk m x = 0) (h2 : Zar kk m y = 0) (h3 : Ze3 y.item.entry (Zik x.head) = true) (h4 : Zar kk m z = 0) (h5 : Ze3 z.item.entry (Zik y.head) = false) : Zft kk m [x, y, z] = 130 := by
 rw [Zq3 h h2 h3, Zej, if_pos h4, if_neg (by rw [h5]; decide)]
theorem Zod (h : Zar kk m x = 0) (h2 : Zar kk m y = 0) (h3 : Ze3 y.item.entry (Zik x.head) = true) (h4 : Zar kk m z = 0) (h5 : Ze3 z.item.entry (Zik y.head) = true) : Zft kk m [x, y, z] = Zar kk m z := by
 rw [Zq3 h h2 h3, Zej, if_pos h4, if_pos h5, Zmj, h4]
end
theorem Zwj  : Z6 Tryz.prog G 27 [.slice none 0 0] [] (Iv 130) [] := by
 refine Za8 (fn := Tryz.f27) (nt := 11) rfl rfl rfl rfl ?_
 refine Zf (Zg (Zb (Iv 0) (Za (Zc (Zf (Zf (Zg (Zd (.slice none 0 0) (Zcu (p := .slice none 0 0) (v := Iv 0) ?_)))))))))
 refine Zl (vx := Iv 0) (vy := Iv 0) rfl rfl (.bool true) rfl rfl (Zdn (by omega)) ?_
 refine Zd (.bool true) (Ze (Ze (Ze (Zi (.bool true) (Za (Zc (Zx rfl (Zf (Zg (Zb (Iv 130) (Za (Zc (Zq (Zz (Zr ?_)))))))))))))))
 exact Zk (v := Iv 130) rfl rfl rfl (by kernel_rfl) rfl
theorem Zwf (x1 : PStep) (n1 c1 : Nat) (hn1 : x1.proof.length = n1) (hc1 : n1 ≤ c1) (hb1 : n1 ≤ 1000) (c : Nat) (hc : 1 ≤ c) : Z6 Tryz.prog G 27 [slv 0 0 1 c] [mxR 181 ([Iv x1.index] ++ (Zs x1.item ++ ([slv 1 0 n1 c1] ++ (Zj x1.head)))), dsR x1.proof] (Iv 0) [mxR 181 ([Iv x1.index] ++ (Zs x1.item ++ ([slv 1 0 n1 c1] ++ (Zj x1.head)))), dsR x1.proof] := by
 refine Za8 (fn := Tryz.f27) (nt := 11) rfl rfl rfl rfl ?_
 refine Zf (Zg (Zb (Iv 0) (Za (Zc (Zf (Zf (Zg (Zd (slv 0 0 1 c) (Zcu (p := slv 0 0 1 c) (v := Iv 1) ?_)))))))))
 refine Zl (vx := Iv 1) (vy := Iv 0) rfl rfl (.bool false) rfl rfl (Zer (by omega)) ?_
 refine Zd (.bool false) (Zd (slv 0 0 1 c) (Zcu (p := slv 0 0 1 c) (v := Iv 1) ?_))
 refine Zl (vx := Iv 1) (vy := Iv 5) rfl rfl (.bool false) rfl rfl (Zeq (by omega)) ?_
 refine Zi (.bool false) (Za (Zc (Zu rfl (Z0 (Zc (Zf (Zg (Zb (Iv 0) (Za (Zc (Zq (Zr ?_))))))))))))
 exact Zk (v := Iv 0) rfl rfl rfl (by kernel_rfl) rfl
theorem Z25 (x1 : PStep) (n1 c1 : Nat) (hn1 : x1.proof.length = n1) (hc1 : n1 ≤ c1) (hb1 : n1 ≤ 1000) (x2 : PStep) (n2 c2 : Nat) (hn2 : x2.proof.length = n2) (hc2 : n2 ≤ c2) (hb2 : n2 ≤ 1000) (c : Nat) (hc : 2 ≤ c) : Z6 Tryz.prog G 27 [slv 0 0 2 c] [mxR 181 ([Iv x1.index] ++ (Zs x1.item ++ ([slv 1 0 n1 c1] ++ (Zj x1.head ++ ([Iv x2.index] ++ (Zs x2.item ++ ([slv 2 0 n2 c2] ++ (Zj x2.head)))))))), dsR x1.proof, dsR x2.proof] (Iv 0) [mxR 181 ([Iv x1.index] ++ (Zs x1.item ++ ([slv 1 0 n1 c1] ++ (Zj x1.head ++ ([Iv x2.index] ++ (Zs x2.item ++ ([slv 2 0 n2 c2] ++ (Zj x2.head)))))))), dsR x1.proof, dsR x2.proof] := by
 refine Za8 (fn := Tryz.f27) (nt := 11) rfl rfl rfl rfl ?_
 refine Zf (Zg (Zb (Iv 0) (Za (Zc (Zf (Zf (Zg (Zd (slv 0 0 2 c) (Zcu (p := slv 0 0 2 c) (v := Iv 2) ?_)))))))))
 refine Zl (vx := Iv 2) (vy := Iv 0) rfl rfl (.bool false) rfl rfl (Zer (by omega)) ?_
 refine Zd (.bool false) (Zd (slv 0 0 2 c) (Zcu (p := slv 0 0 2 c) (v := Iv 2) ?_))
 refine Zl (vx := Iv 2) (vy := Iv 5) rfl rfl (.bool false) rfl rfl (Zeq (by omega)) ?_
 refine Zi (.bool false) (Za (Zc (Zu rfl (Z0 (Zc (Zf (Zg (Zb (Iv 0) (Za (Zc (Zq (Zr ?_))))))))))))
 exact Zk (v := Iv 0) rfl rfl rfl (by kernel_rfl) rfl
theorem Zxk (kk : Nat → BitVec 32) (hG : G 3 = some (Zag w32 64 kk)) (master : D)  : Z6 Tryz.prog G 14 [dgV master, .slice none 0 0] [] (Iv 130) [] := by
 refine Za8 (fn := Tryz.f14) (nt := 48) rfl rfl rfl rfl ?_
 refine Zaa 1 (H' := [hole]) rfl ?_
 refine Zf (Zg (Zbq (v := dgV master) (b := dgB master) (nid := 0) (H' := [dgB master]) (Zb (Iv 0) (Za (Zc ?_)))))
 refine Ztw (l := 0) rfl ?_
 refine Zf (Zg (Zd (.slice none 0 0) ?_))
 refine Z2 (e := []) (nid := 0) (Zwj (G := G)) (vals := [.slice none 0 0]) (v := Iv 130) (H' := [dgB master]) rfl rfl rfl rfl rfl rfl rfl ⟨⟨rfl, trivial⟩, trivial, rfl, rfl, rfl⟩ rfl (by kernel_rfl) ?_
 refine Zb (Iv 130) (Za (Zc (Zf (Zuo (Zc (Zf (Zf (Zg (Zd (.slice none 0 0) (Zcu (p := .slice none 0 0) (v := Iv 0) (Zd (Iv 0) (Za (Zc (Z1 ?_))))))))))))))
 refine Zrr 1 ?_
 refine Ziy (Zf (Zg ?_))
 refine Zl (vx := Iv 0) (vy := Iv 0) rfl rfl (.bool false) rfl rfl (Zb5 (by omega)) ?_
 refine Za (Zc (Zf (Zu rfl (Zbb (Zaq (Zau (Zax rfl (Zc (Zf (Zg (Zd (Iv 130) (Zb (Iv 130) (Za (Zc (Zq (Zjr (Zr ?_)))))))))))))))))
 exact Zk (v := Iv 130) rfl rfl rfl (by kernel_rfl) rfl
abbrev Y9 (x1 : PStep) (n1 : Nat) (c1 : Nat) : Blk := mxR 181 ([Iv x1.index] ++ (Zs x1.item ++ ([slv 1 0 n1 c1] ++ (Zj x1.head))))
theorem Zx0 (kk : Nat → BitVec 32) (hG : G 3 = some (Zag w32 64 kk)) (master : D) (x1 : PStep) (n1 c1 : Nat) (hn1 : x1.proof.length = n1) (hc1 : n1 ≤ c1) (hb1 : n1 ≤ 1000) (hx1 : (-9223372036854775808 ≤ x1.index ∧ x1.index ≤ 9223372036854775807) ∧ -9223372036854775808 ≤ x1.head.head.size ∧ x1.head.head.size ≤ 9223372036854775807) (c : Nat) (hc : 1 ≤ c) : Z6 Tryz.prog G 14 [dgV master, slv 0 0 1 c] [mxR 181 ([Iv x1.index] ++ (Zs x1.item ++ ([slv 1 0 n1 c1] ++ (Zj x1.head)))), dsR x1.proof] (Iv (Zft kk master [x1])) [mxR 181 ([Iv x1.index] ++ (Zs x1.item ++ ([slv 1 0 n1 c1] ++ (Zj x1.head)))), dsR x1.proof] := by
  refine Za8 (fn := Tryz.f14) (nt := 48) rfl rfl rfl rfl ?_
  refine Zaa 2 (H' := [Y9 x1 n1 c1, dsR x1.proof, hole, hole]) rfl ?_
  refine Zf (Zg (Zbq (v := dgV master) (b := dgB master) (nid := 2) (H' := [Y9 x1 n1 c1, dsR x1.proof, dgB master, hole]) (Zb (Iv 0) (Za (Zc ?_)))))
  refine Ztw (l := 0) rfl ?_
  refine Zf (Zg (Zd (slv 0 0 1 c) ?_))
  refine Z2 (e := [some (0, 0), some (1, 0)]) (nid := 0) (Zwf (G := G) x1 n1 c1 hn1 (by omega) (by omega) c (by omega)) (vals := [slv 0 0 1 c]) (v := Iv 0) (H' := [Y9 x1 n1 c1, dsR x1.proof, dgB master, hole]) rfl rfl rfl rfl rfl rfl rfl ⟨⟨⟨rfl, rfl, rfl, by omega, by omega⟩, trivial⟩, ⟨(Zeb rfl rfl (Nat.le_of_eq (by kernel_rfl)) (by kernel_rfl)), (Zhg rfl), trivial⟩, rfl, rfl, rfl⟩ rfl (by kernel_rfl) ?_
  refine Zb (Iv 0) (Za (Zc (Zf (Zuo (Zc (Zf (Zf (Zg (Zd (slv 0 0 1 c) (Zcu (p := slv 0 0 1 c) (v := Iv 1) (Zd (Iv 0) (Za (Zc (Z1 ?_))))))))))))))
  refine Zrr 2 ?_
  refine Ziy (Zf (Zg ?_))
  refine Zl (vx := Iv 0) (vy := Iv 1) rfl rfl (.bool true) rfl rfl (Zcc (by omega)) ?_
  refine Za (Zc (Zf (Zx rfl (Z0 (Zc (Zf (Z1 (Zf (Zg (Zd (Iv 0) ?_))))))))))
  refine Zbe (b := 0) (o := 0) (j := 0) (m := 1) (c := c) (sz := 181) (i := 0) (k := .i64) rfl rfl rfl rfl rfl (by omega) (by omega) (by omega) ?_
  refine Zp (p := pt 0 0) (v := mxV ([Iv x1.index] ++ (Zs x1.item ++ ([slv 1 0 n1 c1] ++ (Zj x1.head))))) (Zam (b := mxB 181 ([Iv 0] ++ (Zs (⟨0, (⟨0, 0, 0, ⟨#[]⟩, (⟨(⟨0, 0, 0, dz, 0⟩ : Head), 0, dz⟩ : Signed), (⟨0, 0, 0, 0, dz⟩ : Claim)⟩ : Entry)⟩ : Item) ++ ([.slice none 0 0] ++ (Zj (⟨(⟨0, 0, 0, dz, 0⟩ : Head), 0, dz⟩ : Signed)))))) (nid := 3) (H' := [Y9 x1 n1 c1, dsR x1.proof, dgB master, mxB 181 ([Iv 0] ++ (Zs (⟨0, (⟨0, 0, 0, ⟨#[]⟩, (⟨(⟨0, 0, 0, dz, 0⟩ : Head), 0, dz⟩ : Signed), (⟨0, 0, 0, 0, dz⟩ : Claim)⟩ : Entry)⟩ : Item) ++ ([.slice none 0 0] ++ (Zj (⟨(⟨0, 0, 0, dz, 0⟩ : Head), 0, dz⟩ : Signed)))))]) (Zb (Iv 0) (Z7 (p := pt 3 0) (v := mxV ([Iv x1.index] ++ (Zs x1.item ++ ([slv 1 0 n1 c1] ++ (Zj x1.head))))) (b := 3) (blk := mxB 181 ([Iv x1.index] ++ (Zs x1.item ++ ([slv 1 0 n1 c1] ++ (Zj x1.head))))) (H' := [Y9 x1 n1 c1, dsR x1.proof, dgB master, mxB 181 ([Iv x1.index] ++ (Zs x1.item ++ ([slv 1 0 n1 c1] ++ (Zj x1.head))))]) (Za (Zc (Z1 (Zf (Zg (Zd (Iv 0) ?_)))))))))
  refine Zl (vx := Iv 0) (vy := Iv 0) rfl rfl (.bool false) rfl rfl (Zdz (by omega)) ?_
  refine Zb (.bool false) (Za (Zc (Zu rfl (Zf (Zg (Zd (Iv 0) ?_))))))
  refine Zl (vx := Iv 0) (vy := Iv 0) rfl rfl (.bool false) rfl rfl (Zeq (by omega)) ?_
  refine Zb (.bool false) (Za (Zc (Zu rfl (Zg (Zp (p := pt 2 0) (v := dgV master) (Zp (p := pt 3 0) (v := mxV ([Iv x1.index] ++ (Zs x1.item ++ ([slv 1 0 n1 c1] ++ (Zj x1.head))))) ?_))))))
  refine Z2 (e := [some (1, 0)]) (nid := 0) (Zqy (G := G) kk hG master x1 n1 c1 hn1 (by omega) (by omega) (by first | omega | (dsimp only; omega))) (vals := [dgV master, mxV ([Iv x1.index] ++ (Zs x1.item ++ ([slv 1 0 n1 c1] ++ (Zj x1.head))))]) (v := Iv (Zar kk master x1)) (H' := [Y9 x1 n1 c1, dsR x1.proof, dgB master, mxB 181 ([Iv x1.index] ++ (Zs x1.item ++ ([slv 1 0 n1 c1] ++ (Zj x1.head))))]) rfl rfl rfl rfl rfl rfl rfl ⟨⟨rfl, (Ze7 (by kernel_rfl) (Zan ⟨⟨rfl, rfl⟩, trivial⟩ (Zan (Za6 (by kernel_rfl)) (Zan ⟨⟨rfl, rfl, rfl, by first | omega | exact Nat.le_refl _, by first | omega | exact Nat.le_refl _⟩, trivial⟩ (Za6 (by kernel_rfl)))))), trivial⟩, ⟨(Zhg rfl), trivial⟩, rfl, rfl, rfl⟩ rfl (by kernel_rfl) ?_
  refine Zb (Iv (Zar kk master x1)) (Za (Z4 (Z4 (Zc (Zg ?_)))))
  refine Zl (vx := Iv 0) (vy := Iv 1) rfl rfl (Iv 1) rfl rfl (Za3 (by omega) (by omega) (by omega)) ?_
  refine Zd (Iv 1) (Za (Zm9 (Ziy (Zf (Zg ?_)))))
  refine Zl (vx := Iv 1) (vy := Iv 1) rfl rfl (.bool false) rfl rfl (Zb5 (by omega)) ?_
  refine Za (Zc (Zf (Zu rfl (Zbb (Zaq (Zau (Zax rfl (Zc (Zf (Zg (Zd (Iv (Zar kk master x1)) (Zb (Iv (Zar kk master x1)) (Za (Zc (Zq (Zjr (Zr ?_)))))))))))))))))
  rw [show Zft kk master [x1] = (Zar kk master x1) from by first | exact Zrd | exact Zny (by omega) | exact Zn9 (by omega) (by omega) | exact Zlm (by omega) (by omega) (by assumption) | exact Zof (by omega) (by omega) (by assumption) | exact Znr (by omega) | exact Znx (by omega) (by omega) | exact Zoe (by omega) (by omega) (by assumption) | exact Zn4 (by omega) (by omega) (by assumption) (by omega) | exact Znz (by omega) (by omega) (by assumption) (by omega) (by assumption) | exact Zod (by omega) (by omega) (by assumption) (by omega) (by assumption)]
  exact Zk (v := Iv (Zar kk master x1)) rfl rfl rfl (by kernel_rfl) rfl
abbrev Y10 (x1 : PStep) (n1 : Nat) (c1 : Nat) (x2 : PStep) (n2 : Nat) (c2 : Nat) : Blk := mxR 181 ([Iv x1.index] ++ (Zs x1.item ++ ([slv 1 0 n1 c1] ++ (Zj x1.head ++ ([Iv x2.index] ++ (Zs x2.item ++ ([slv 2 0 n2 c2] ++ (Zj x2.head))))))))
abbrev Y11 (x1 : PStep) (n1 : Nat) (c1 : Nat) : Blk := mxB 181 ([Iv x1.index] ++ (Zs x1.item ++ ([slv 1 0 n1 c1] ++ (Zj x1.head))))
abbrev Y12 (x2 : PStep) (n2 : Nat) (c2 : Nat) : Blk := mxB 181 ([Iv x2.index] ++ (Zs x2.item ++ ([slv 2 0 n2 c2] ++ (Zj x2.head))))
theorem Zxw (kk : Nat → BitVec 32) (hG : G 3 = some (Zag w32 64 kk)) (master : D) (x1 : PStep) (n1 c1 : Nat) (hn1 : x1.proof.length = n1) (hc1 : n1 ≤ c1) (hb1 : n1 ≤ 1000) (hx1 : (-9223372036854775808 ≤ x1.index ∧ x1.index ≤ 9223372036854775807) ∧ -9223372036854775808 ≤ x1.head.head.size ∧ x1.head.head.size ≤ 9223372036854775807) (x2 : PStep) (n2 c2 : Nat) (hn2 : x2.proof.length = n2) (hc2 : n2 ≤ c2) (hb2 : n2 ≤ 1000) (hx2 : (-9223372036854775808 ≤ x2.index ∧ x2.index ≤ 9223372036854775807) ∧ -9223372036854775808 ≤ x2.head.head.size ∧ x2.head.head.size ≤ 9223372036854775807) (c : Nat) (hc : 2 ≤ c) : Z6 Tryz.prog G 14 [dgV master, slv 0 0 2 c] [mxR 181 ([Iv x1.index] ++ (Zs x1.item ++ ([slv 1 0 n1 c1] ++ (Zj x1.head ++ ([Iv x2.index] ++ (Zs x2.item ++ ([slv 2 0 n2 c2] ++ (Zj x2.head)))))))), dsR x1.proof, dsR x2.proof] (Iv (Zft kk master [x1, x2])) [mxR 181 ([Iv x1.index] ++ (Zs x1.item ++ ([slv 1 0 n1 c1] ++ (Zj x1.head ++ ([Iv x2.index] ++ (Zs x2.item ++ ([slv 2 0 n2 c2] ++ (Zj x2.head)))))))), dsR x1.proof, dsR x2.proof] := by
  refine Za8 (fn := Tryz.f14) (nt := 48) rfl rfl rfl rfl ?_
  refine Zaa 4 (H' := [Y10 x1 n1 c1 x2 n2 c2, dsR x1.proof, dsR x2.proof, hole, hole, hole, hole]) rfl ?_
  refine Zf (Zg (Zbq (v := dgV master) (b := dgB master) (nid := 3) (H' := [Y10 x1 n1 c1 x2 n2 c2, dsR x1.proof, dsR x2.proof, dgB master, hole, hole, hole]) (Zb (Iv 0) (Za (Zc ?_)))))
  refine Ztw (l := 0) rfl ?_
  refine Zf (Zg (Zd (slv 0 0 2 c) ?_))
  refine Z2 (e := [some (0, 0), some (1, 0), some (2, 0)]) (nid := 0) (Z25 (G := G) x1 n1 c1 hn1 (by omega) (by omega) x2 n2 c2 hn2 (by omega) (by omega) c (by omega)) (vals := [slv 0 0 2 c]) (v := Iv 0) (H' := [Y10 x1 n1 c1 x2 n2 c2, dsR x1.proof, dsR x2.proof, dgB master, hole, hole, hole]) rfl rfl rfl rfl rfl rfl rfl ⟨⟨⟨rfl, rfl, rfl, by omega, by omega⟩, trivial⟩, ⟨(Zeb rfl rfl (Nat.le_of_eq (by kernel_rfl)) (by kernel_rfl)), (Zhg rfl), (Zhg rfl), trivial⟩, rfl, rfl, rfl⟩ rfl (by kernel_rfl) ?_
  refine Zb (Iv 0) (Za (Zc (Zf (Zuo (Zc (Zf (Zf (Zg (Zd (slv 0 0 2 c) (Zcu (p := slv 0 0 2 c) (v := Iv 2) (Zd (Iv 0) (Za (Zc (Z1 ?_))))))))))))))
  refine Zrr 3 ?_
  refine Ziy (Zf (Zg ?_))
  refine Zl (vx := Iv 0) (vy := Iv 2) rfl rfl (.bool true) rfl rfl (Zcc (by omega)) ?_
  refine Za (Zc (Zf (Zx rfl (Z0 (Zc (Zf (Z1 (Zf (Zg (Zd (Iv 0) ?_))))))))))
  refine Zbe (b := 0) (o := 0) (j := 0) (m := 2) (c := c) (sz := 181) (i := 0) (k := .i64) rfl rfl rfl rfl rfl (by omega) (by omega) (by omega) ?_
  refine Zp (p := pt 0 0) (v := mxV ([Iv x1.index] ++ (Zs x1.item ++ ([slv 1 0 n1 c1] ++ (Zj x1.head))))) (Zam (b := mxB 181 ([Iv 0] ++ (Zs (⟨0, (⟨0, 0, 0, ⟨#[]⟩, (⟨(⟨0, 0, 0, dz, 0⟩ : Head), 0, dz⟩ : Signed), (⟨0, 0, 0, 0, dz⟩ : Claim)⟩ : Entry)⟩ : Item) ++ ([.slice none 0 0] ++ (Zj (⟨(⟨0, 0, 0, dz, 0⟩ : Head), 0, dz⟩ : Signed)))))) (nid := 4) (H' := [Y10 x1 n1 c1 x2 n2 c2, dsR x1.proof, dsR x2.proof, dgB master, mxB 181 ([Iv 0] ++ (Zs (⟨0, (⟨0, 0, 0, ⟨#[]⟩, (⟨(⟨0, 0, 0, dz, 0⟩ : Head), 0, dz⟩ : Signed), (⟨0, 0, 0, 0, dz⟩ : Claim)⟩ : Entry)⟩ : Item) ++ ([.slice none 0 0] ++ (Zj (⟨(⟨0, 0, 0, dz, 0⟩ : Head), 0, dz⟩ : Signed))))), hole, hole]) (Zb (Iv 0) (Z7 (p := pt 4 0) (v := mxV ([Iv x1.index] ++ (Zs x1.item ++ ([slv 1 0 n1 c1] ++ (Zj x1.head))))) (b := 4) (blk := mxB 181 ([Iv x1.index] ++ (Zs x1.item ++ ([slv 1 0 n1 c1] ++ (Zj x1.head))))) (H' := [Y10 x1 n1 c1 x2 n2 c2, dsR x1.proof, dsR x2.proof, dgB master, Y11 x1 n1 c1, hole, hole]) (Za (Zc (Z1 (Zf (Zg (Zd (Iv 0) ?_)))))))))
  refine Zl (vx := Iv 0) (vy := Iv 0) rfl rfl (.bool false) rfl rfl (Zdz (by omega)) ?_
  refine Zb (.bool false) (Za (Zc (Zu rfl (Zf (Zg (Zd (Iv 0) ?_))))))
  refine Zl (vx := Iv 0) (vy := Iv 0) rfl rfl (.bool false) rfl rfl (Zeq (by omega)) ?_
  refine Zb (.bool false) (Za (Zc (Zu rfl (Zg (Zp (p := pt 3 0) (v := dgV master) (Zp (p := pt 4 0) (v := mxV ([Iv x1.index] ++ (Zs x1.item ++ ([slv 1 0 n1 c1] ++ (Zj x1.head))))) ?_))))))
  refine Z2 (e := [some (1, 0)]) (nid := 0) (Zqy (G := G) kk hG master x1 n1 c1 hn1 (by omega) (by omega) (by first | omega | (dsimp only; omega))) (vals := [dgV master, mxV ([Iv x1.index] ++ (Zs x1.item ++ ([slv 1 0 n1 c1] ++ (Zj x1.head))))]) (v := Iv (Zar kk master x1)) (H' := [Y10 x1 n1 c1 x2 n2 c2, dsR x1.proof, dsR x2.proof, dgB master, Y11 x1 n1 c1, hole, hole]) rfl rfl rfl rfl rfl rfl rfl ⟨⟨rfl, (Ze7 (by kernel_rfl) (Zan ⟨⟨rfl, rfl⟩, trivial⟩ (Zan (Za6 (by kernel_rfl)) (Zan ⟨⟨rfl, rfl, rfl, by first | omega | exact Nat.le_refl _, by first | omega | exact Nat.le_refl _⟩, trivial⟩ (Za6 (by kernel_rfl)))))), trivial⟩, ⟨(Zhg rfl), trivial⟩, rfl, rfl, rfl⟩ rfl (by kernel_rfl) ?_
  refine Zb (Iv (Zar kk master x1)) (Za (Z4 (Z4 (Zc (Zg ?_)))))
  refine Zl (vx := Iv 0) (vy := Iv 1) rfl rfl (Iv 1) rfl rfl (Za3 (by omega) (by omega) (by omega)) ?_
  refine Zd (Iv 1) (Za (Zm9 (Ziy (Zf (Zg ?_)))))
  refine Zl (vx := Iv 1) (vy := Iv 2) rfl rfl (.bool true) rfl rfl (Zcc (by omega)) ?_
  refine Za (Zc (Zf (Zx rfl (Z0 (Zc (Zf (Z1 (Zf (Zg (Zd (Iv 1) ?_))))))))))
  refine Zbe (b := 0) (o := 0) (j := 181) (m := 2) (c := c) (sz := 181) (i := 1) (k := .i64) rfl rfl rfl rfl rfl (by omega) (by omega) (by omega) ?_
  refine Zp (p := pt 0 181) (v := mxV ([Iv x2.index] ++ (Zs x2.item ++ ([slv 2 0 n2 c2] ++ (Zj x2.head))))) (Zam (b := mxB 181 ([Iv 0] ++ (Zs (⟨0, (⟨0, 0, 0, ⟨#[]⟩, (⟨(⟨0, 0, 0, dz, 0⟩ : Head), 0, dz⟩ : Signed), (⟨0, 0, 0, 0, dz⟩ : Claim)⟩ : Entry)⟩ : Item) ++ ([.slice none 0 0] ++ (Zj (⟨(⟨0, 0, 0, dz, 0⟩ : Head), 0, dz⟩ : Signed)))))) (nid := 5) (H' := [Y10 x1 n1 c1 x2 n2 c2, dsR x1.proof, dsR x2.proof, dgB master, Y11 x1 n1 c1, mxB 181 ([Iv 0] ++ (Zs (⟨0, (⟨0, 0, 0, ⟨#[]⟩, (⟨(⟨0, 0, 0, dz, 0⟩ : Head), 0, dz⟩ : Signed), (⟨0, 0, 0, 0, dz⟩ : Claim)⟩ : Entry)⟩ : Item) ++ ([.slice none 0 0] ++ (Zj (⟨(⟨0, 0, 0, dz, 0⟩ : Head), 0, dz⟩ : Signed))))), hole]) (Zb (Iv 1) (Z7 (p := pt 5 0) (v := mxV ([Iv x2.index] ++ (Zs x2.item ++ ([slv 2 0 n2 c2] ++ (Zj x2.head))))) (b := 5) (blk := mxB 181 ([Iv x2.index] ++ (Zs x2.item ++ ([slv 2 0 n2 c2] ++ (Zj x2.head))))) (H' := [Y10 x1 n1 c1 x2 n2 c2, dsR x1.proof, dsR x2.proof, dgB master, Y11 x1 n1 c1, Y12 x2 n2 c2, hole]) (Za (Zc (Z1 (Zf (Zg (Zd (Iv (Zar kk master x1)) ?_)))))))))
  by_cases h1 : (Zar kk master x1) ≠ 0
  refine Zl (vx := Iv (Zar kk master x1)) (vy := Iv 0) rfl rfl (.bool true) rfl rfl (Zea (by omega)) ?_
  refine Zb (.bool true) (Za (Zc (Zx rfl (Zbb (Zju rfl (Zju rfl (Zaq (Zau (Zax rfl (Zc (Zf (Zg (Zd (Iv (Zar kk master x1)) (Zb (Iv (Zar kk master x1)) (Za (Zc (Zq (Zjr (Zr ?_)))))))))))))))))))
  rw [show Zft kk master [x1, x2] = (Zar kk master x1) from by first | exact Zrd | exact Zny (by omega) | exact Zn9 (by omega) (by omega) | exact Zlm (by omega) (by omega) (by assumption) | exact Zof (by omega) (by omega) (by assumption) | exact Znr (by omega) | exact Znx (by omega) (by omega) | exact Zoe (by omega) (by omega) (by assumption) | exact Zn4 (by omega) (by omega) (by assumption) (by omega) | exact Znz (by omega) (by omega) (by assumption) (by omega) (by assumption) | exact Zod (by omega) (by omega) (by assumption) (by omega) (by assumption)]
  exact Zk (v := Iv (Zar kk master x1)) rfl rfl rfl (by kernel_rfl) rfl
  refine Zl (vx := Iv (Zar kk master x1)) (vy := Iv 0) rfl rfl (.bool false) rfl rfl (Zdz (by omega)) ?_
  refine Zb (.bool false) (Za (Zc (Zu rfl (Zf (Zg (Zd (Iv 1) ?_))))))
  refine Zl (vx := Iv 1) (vy := Iv 0) rfl rfl (.bool true) rfl rfl (Zes (by omega)) ?_
  refine Zb (.bool true) (Za (Zc (Zx rfl (Zf (Zg (Zd (slv 0 0 2 c) (Zd (Iv 1) ?_)))))))
  refine Zl (vx := Iv 1) (vy := Iv 1) rfl rfl (Iv 0) rfl rfl (Zc4 (by omega) (by omega) (by omega)) ?_
  refine Zbe (b := 0) (o := 0) (j := 0) (m := 2) (c := c) (sz := 181) (i := 0) (k := .i64) rfl rfl rfl rfl rfl (by omega) (by omega) (by omega) ?_
  refine Za2 (b := 0) (o := 0) (n := 112) (o' := 0 + 112) rfl rfl rfl rfl (by omega) ?_
  refine Zp (p := pt 0 (0 + 112)) (v := Zy x1.head) ?_
  refine Za5 (vs := [(0, Iv 2), (4, Zy x1.head)]) (v := Zdf (⟨2, 0, 0, ⟨#[]⟩, x1.head, (⟨0, 0, 0, 0, dz⟩ : Claim)⟩ : Entry)) rfl rfl rfl (by kernel_rfl) ?_
  refine Zam (b := bxB 109 (Zcs (⟨0, 0, 0, ⟨#[]⟩, (⟨(⟨0, 0, 0, dz, 0⟩ : Head), 0, dz⟩ : Signed), (⟨0, 0, 0, 0, dz⟩ : Claim)⟩ : Entry))) (nid := 6) (H' := [Y10 x1 n1 c1 x2 n2 c2, dsR x1.proof, dsR x2.proof, dgB master, Y11 x1 n1 c1, Y12 x2 n2 c2, bxB 109 (Zcs (⟨0, 0, 0, ⟨#[]⟩, (⟨(⟨0, 0, 0, dz, 0⟩ : Head), 0, dz⟩ : Signed), (⟨0, 0, 0, 0, dz⟩ : Claim)⟩ : Entry))]) (Z7 (p := pt 6 0) (v := Zdf (⟨2, 0, 0, ⟨#[]⟩, x1.head, (⟨0, 0, 0, 0, dz⟩ : Claim)⟩ : Entry)) (b := 6) (blk := bxB 109 (Zcs (⟨2, 0, 0, ⟨#[]⟩, x1.head, (⟨0, 0, 0, 0, dz⟩ : Claim)⟩ : Entry))) (H' := [Y10 x1 n1 c1 x2 n2 c2, dsR x1.proof, dsR x2.proof, dgB master, Y11 x1 n1 c1, Y12 x2 n2 c2, bxB 109 (Zcs (⟨2, 0, 0, ⟨#[]⟩, x1.head, (⟨0, 0, 0, 0, dz⟩ : Claim)⟩ : Entry))]) (Za (Zc (Zf (Zg (Zp (p := pt 3 0) (v := dgV master) (Zp (p := pt 5 0) (v := mxV ([Iv x2.index] ++ (Zs x2.item ++ ([slv 2 0 n2 c2] ++ (Zj x2.head))))) ?_)))))))
  refine Z2 (e := [some (2, 0)]) (nid := 0) (Zqy (G := G) kk hG master x2 n2 c2 hn2 (by omega) (by omega) (by first | omega | (dsimp only; omega))) (vals := [dgV master, mxV ([Iv x2.index] ++ (Zs x2.item ++ ([slv 2 0 n2 c2] ++ (Zj x2.head))))]) (v := Iv (Zar kk master x2)) (H' := [Y10 x1 n1 c1 x2 n2 c2, dsR x1.proof, dsR x2.proof, dgB master, Y11 x1 n1 c1, Y12 x2 n2 c2, bxB 109 (Zcs (⟨2, 0, 0, ⟨#[]⟩, x1.head, (⟨0, 0, 0, 0, dz⟩ : Claim)⟩ : Entry))]) rfl rfl rfl rfl rfl rfl rfl ⟨⟨rfl, (Ze7 (by kernel_rfl) (Zan ⟨⟨rfl, rfl⟩, trivial⟩ (Zan (Za6 (by kernel_rfl)) (Zan ⟨⟨rfl, rfl, rfl, by first | omega | exact Nat.le_refl _, by first | omega | exact Nat.le_refl _⟩, trivial⟩ (Za6 (by kernel_rfl)))))), trivial⟩, ⟨(Zhg rfl), trivial⟩, rfl, rfl, rfl⟩ rfl (by kernel_rfl) ?_
  refine Zb (Iv (Zar kk master x2)) (Za (Zc (Zf (Zg (Zd (Iv (Zar kk master x2)) ?_)))))
  by_cases h2 : (Zar kk master x2) = 0
  refine Zl (vx := Iv (Zar kk master x2)) (vy := Iv 0) rfl rfl (.bool true) rfl rfl (Zdn (by omega)) ?_
  refine Zd (.bool true) (Zh (b := 5) (o := 0) (n := 1) (o' := 1) (Zh (b := 5) (o := 1) (n := 1) (o' := 2) (Zp (p := pt 5 2) (v := Zdf x2.item.entry) (Zp (p := pt 6 0) (v := Zdf (⟨2, 0, 0, ⟨#[]⟩, x1.head, (⟨0, 0, 0, 0, dz⟩ : Claim)⟩ : Entry)) ?_))))
  rcases Bool.eq_false_or_eq_true (Ze3 x2.item.entry (⟨2, 0, 0, ⟨#[]⟩, x1.head, (⟨0, 0, 0, 0, dz⟩ : Claim)⟩ : Entry)) with h3 | h3
  refine Zl (vx := Zdf x2.item.entry) (vy := Zdf (⟨2, 0, 0, ⟨#[]⟩, x1.head, (⟨0, 0, 0, 0, dz⟩ : Claim)⟩ : Entry)) rfl rfl (.bool false) rfl rfl (Eq.trans (Zsn x2.item.entry (⟨2, 0, 0, ⟨#[]⟩, x1.head, (⟨0, 0, 0, 0, dz⟩ : Claim)⟩ : Entry)) (by rw [h3] <;> rfl)) ?_
  refine Zi (.bool false) (Za (Zc (Zu rfl (Z0 (Z4 (Z4 (Zc (Zg ?_))))))))
  refine Zl (vx := Iv 1) (vy := Iv 1) rfl rfl (Iv 2) rfl rfl (Za3 (by omega) (by omega) (by omega)) ?_
  refine Zd (Iv 2) (Za (Zm9 (Ziy (Zf (Zg ?_)))))
  refine Zl (vx := Iv 2) (vy := Iv 2) rfl rfl (.bool false) rfl rfl (Zb5 (by omega)) ?_
  refine Za (Zc (Zf (Zu rfl (Zbb (Zaq (Zau (Zax rfl (Zc (Zf (Zg (Zd (Iv (Zar kk master x2)) (Zb (Iv (Zar kk master x2)) (Za (Zc (Zq (Zjr (Zr ?_)))))))))))))))))
  rw [show Zft kk master [x1, x2] = (Zar kk master x2) from by first | exact Zrd | exact Zny (by omega) | exact Zn9 (by omega) (by omega) | exact Zlm (by omega) (by omega) (by assumption) | exact Zof (by omega) (by omega) (by assumption) | exact Znr (by omega) | exact Znx (by omega) (by omega) | exact Zoe (by omega) (by omega) (by assumption) | exact Zn4 (by omega) (by omega) (by assumption) (by omega) | exact Znz (by omega) (by omega) (by assumption) (by omega) (by assumption) | exact Zod (by omega) (by omega) (by assumption) (by omega) (by assumption)]
  exact Zk (v := Iv (Zar kk master x2)) rfl rfl rfl (by kernel_rfl) rfl
  refine Zl (vx := Zdf x2.item.entry) (vy := Zdf (⟨2, 0, 0, ⟨#[]⟩, x1.head, (⟨0, 0, 0, 0, dz⟩ : Claim)⟩ : Entry)) rfl rfl (.bool true) rfl rfl (Eq.trans (Zsn x2.item.entry (⟨2, 0, 0, ⟨#[]⟩, x1.head, (⟨0, 0, 0, 0, dz⟩ : Claim)⟩ : Entry)) (by rw [h3] <;> rfl)) ?_
  refine Zi (.bool true) (Za (Zc (Zx rfl (Zg (Zb (Iv 130) (Za (Z4 (Z4 (Zc (Zg ?_))))))))))
  refine Zl (vx := Iv 1) (vy := Iv 1) rfl rfl (Iv 2) rfl rfl (Za3 (by omega) (by omega) (by omega)) ?_
  refine Zd (Iv 2) (Za (Zm9 (Ziy (Zf (Zg ?_)))))
  refine Zl (vx := Iv 2) (vy := Iv 2) rfl rfl (.bool false) rfl rfl (Zb5 (by omega)) ?_
  refine Za (Zc (Zf (Zu rfl (Zbb (Zaq (Zau (Zax rfl (Zc (Zf (Zg (Zd (Iv 130) (Zb (Iv 130) (Za (Zc (Zq (Zjr (Zr ?_)))))))))))))))))
  rw [show Zft kk master [x1, x2] = 130 from by first | exact Zrd | exact Zny (by omega) | exact Zn9 (by omega) (by omega) | exact Zlm (by omega) (by omega) (by assumption) | exact Zof (by omega) (by omega) (by assumption) | exact Znr (by omega) | exact Znx (by omega) (by omega) | exact Zoe (by omega) (by omega) (by assumption) | exact Zn4 (by omega) (by omega) (by assumption) (by omega) | exact Znz (by omega) (by omega) (by assumption) (by omega) (by assumption) | exact Zod (by omega) (by omega) (by assumption) (by omega) (by assumption)]
  exact Zk (v := Iv 130) rfl rfl rfl (by kernel_rfl) rfl
  refine Zl (vx := Iv (Zar kk master x2)) (vy := Iv 0) rfl rfl (.bool false) rfl rfl (Zer (by omega)) ?_
  refine Zd (.bool false) (Ze (Ze (Ze (Ze (Ze (Zi (.bool false) (Za (Zc (Zu rfl (Z0 (Z4 (Z4 (Zc (Zg ?_))))))))))))))
  refine Zl (vx := Iv 1) (vy := Iv 1) rfl rfl (Iv 2) rfl rfl (Za3 (by omega) (by omega) (by omega)) ?_
  refine Zd (Iv 2) (Za (Zm9 (Ziy (Zf (Zg ?_)))))
  refine Zl (vx := Iv 2) (vy := Iv 2) rfl rfl (.bool false) rfl rfl (Zb5 (by omega)) ?_
  refine Za (Zc (Zf (Zu rfl (Zbb (Zaq (Zau (Zax rfl (Zc (Zf (Zg (Zd (Iv (Zar kk master x2)) (Zb (Iv (Zar kk master x2)) (Za (Zc (Zq (Zjr (Zr ?_)))))))))))))))))
  rw [show Zft kk master [x1, x2] = (Zar kk master x2) from by first | exact Zrd | exact Zny (by omega) | exact Zn9 (by omega) (by omega) | exact Zlm (by omega) (by omega) (by assumption) | exact Zof (by omega) (by omega) (by assumption) | exact Znr (by omega) | exact Znx (by omega) (by omega) | exact Zoe (by omega) (by omega) (by assumption) | exact Zn4 (by omega) (by omega) (by assumption) (by omega) | exact Znz (by omega) (by omega) (by assumption) (by omega) (by assumption) | exact Zod (by omega) (by omega) (by assumption) (by omega) (by assumption)]
  exact Zk (v := Iv (Zar kk master x2)) rfl rfl rfl (by kernel_rfl) rfl
abbrev Y13  : Blk := bxB 110 (Zs (⟨0, (⟨0, 0, 0, ⟨#[]⟩, (⟨(⟨0, 0, 0, dz, 0⟩ : Head), 0, dz⟩ : Signed), (⟨0, 0, 0, 0, dz⟩ : Claim)⟩ : Entry)⟩ : Item))
abbrev Y14  : Blk := bxB 69 (Zj (⟨(⟨0, 0, 0, dz, 0⟩ : Head), 0, dz⟩ : Signed))
theorem Z3c  : Z6 Tryz.prog G 15 [.slice none 0 0] [] (.tuple #[Za9 (⟨0, (⟨0, 0, 0, ⟨#[]⟩, (⟨(⟨0, 0, 0, dz, 0⟩ : Head), 0, dz⟩ : Signed), (⟨0, 0, 0, 0, dz⟩ : Claim)⟩ : Entry)⟩ : Item), Zy (⟨(⟨0, 0, 0, dz, 0⟩ : Head), 0, dz⟩ : Signed), Iv 130]) [] := by
 refine Za8 (fn := Tryz.f15) (nt := 24) rfl rfl rfl rfl ?_
 refine Zaa 2 (H' := [hole, hole]) rfl ?_
 refine Zf (Zg (Zam (b := bxB 110 (Zs (⟨0, (⟨0, 0, 0, ⟨#[]⟩, (⟨(⟨0, 0, 0, dz, 0⟩ : Head), 0, dz⟩ : Signed), (⟨0, 0, 0, 0, dz⟩ : Claim)⟩ : Entry)⟩ : Item))) (nid := 0) (H' := [Y13, hole]) (Zam (b := bxB 69 (Zj (⟨(⟨0, 0, 0, dz, 0⟩ : Head), 0, dz⟩ : Signed))) (nid := 1) (H' := [Y13, Y14]) (Zb (Iv 0) (Za (Zc (Zf (Zf (Zg (Zd (.slice none 0 0) ?_))))))))))
 refine Z2 (e := []) (nid := 0) (Zwj (G := G)) (vals := [.slice none 0 0]) (v := Iv 130) (H' := [Y13, Y14]) rfl rfl rfl rfl rfl rfl rfl ⟨⟨rfl, trivial⟩, trivial, rfl, rfl, rfl⟩ rfl (by kernel_rfl) ?_
 refine Zb (Iv 130) (Za (Zc (Zf (Zg (Zd (Iv 130) ?_)))))
 refine Zl (vx := Iv 130) (vy := Iv 0) rfl rfl (.bool true) rfl rfl (Zea (by omega)) ?_
 refine Za (Zc (Zx rfl (Zf (Zg ?_))))
 refine Za5 (vs := []) (v := Za9 (⟨0, (⟨0, 0, 0, ⟨#[]⟩, (⟨(⟨0, 0, 0, dz, 0⟩ : Head), 0, dz⟩ : Signed), (⟨0, 0, 0, 0, dz⟩ : Claim)⟩ : Entry)⟩ : Item)) rfl rfl rfl (by kernel_rfl) ?_
 refine Za5 (vs := []) (v := Zy (⟨(⟨0, 0, 0, dz, 0⟩ : Head), 0, dz⟩ : Signed)) rfl rfl rfl (by kernel_rfl) ?_
 refine Zd (Iv 130) (Z7 (p := pt 0 0) (v := Za9 (⟨0, (⟨0, 0, 0, ⟨#[]⟩, (⟨(⟨0, 0, 0, dz, 0⟩ : Head), 0, dz⟩ : Signed), (⟨0, 0, 0, 0, dz⟩ : Claim)⟩ : Entry)⟩ : Item)) (b := 0) (blk := bxB 110 (Zs (⟨0, (⟨0, 0, 0, ⟨#[]⟩, (⟨(⟨0, 0, 0, dz, 0⟩ : Head), 0, dz⟩ : Signed), (⟨0, 0, 0, 0, dz⟩ : Claim)⟩ : Entry)⟩ : Item))) (H' := [Y13, Y14]) (Z7 (p := pt 1 0) (v := Zy (⟨(⟨0, 0, 0, dz, 0⟩ : Head), 0, dz⟩ : Signed)) (b := 1) (blk := bxB 69 (Zj (⟨(⟨0, 0, 0, dz, 0⟩ : Head), 0, dz⟩ : Signed))) (H' := [Y13, Y14]) (Zb (Iv 130) (Za (Zc (Zq (Zz (Zr ?_))))))))
 exact Zk (v := .tuple #[Za9 (⟨0, (⟨0, 0, 0, ⟨#[]⟩, (⟨(⟨0, 0, 0, dz, 0⟩ : Head), 0, dz⟩ : Signed), (⟨0, 0, 0, 0, dz⟩ : Claim)⟩ : Entry)⟩ : Item), Zy (⟨(⟨0, 0, 0, dz, 0⟩ : Head), 0, dz⟩ : Signed), Iv 130]) (by kernel_rfl) rfl rfl (by kernel_rfl) ⟨(Zin (by kernel_rfl) rfl), (Zin (by kernel_rfl) rfl), rfl, trivial⟩
abbrev Y15 (x1 : PStep) (n1 : Nat) (c1 : Nat) : Blk := mxR 181 ([Iv x1.index] ++ (Zs x1.item ++ ([slv 1 0 n1 c1] ++ (Zj x1.head))))
abbrev Y16  : Blk := bxB 110 (Zs (⟨0, (⟨0, 0, 0, ⟨#[]⟩, (⟨(⟨0, 0, 0, dz, 0⟩ : Head), 0, dz⟩ : Signed), (⟨0, 0, 0, 0, dz⟩ : Claim)⟩ : Entry)⟩ : Item))
theorem Z5b (x1 : PStep) (n1 c1 : Nat) (hn1 : x1.proof.length = n1) (hc1 : n1 ≤ c1) (hb1 : n1 ≤ 1000) (c : Nat) (hc : 1 ≤ c) : Z6 Tryz.prog G 15 [slv 0 0 1 c] [mxR 181 ([Iv x1.index] ++ (Zs x1.item ++ ([slv 1 0 n1 c1] ++ (Zj x1.head)))), dsR x1.proof] (.tuple #[Za9 x1.item, Zy x1.head, Iv 0]) [mxR 181 ([Iv x1.index] ++ (Zs x1.item ++ ([slv 1 0 n1 c1] ++ (Zj x1.head)))), dsR x1.proof] := by
 refine Za8 (fn := Tryz.f15) (nt := 24) rfl rfl rfl rfl ?_
 refine Zaa 2 (H' := [Y15 x1 n1 c1, dsR x1.proof, hole, hole]) rfl ?_
 refine Zf (Zg (Zam (b := bxB 110 (Zs (⟨0, (⟨0, 0, 0, ⟨#[]⟩, (⟨(⟨0, 0, 0, dz, 0⟩ : Head), 0, dz⟩ : Signed), (⟨0, 0, 0, 0, dz⟩ : Claim)⟩ : Entry)⟩ : Item))) (nid := 2) (H' := [Y15 x1 n1 c1, dsR x1.proof, Y16, hole]) (Zam (b := bxB 69 (Zj (⟨(⟨0, 0, 0, dz, 0⟩ : Head), 0, dz⟩ : Signed))) (nid := 3) (H' := [Y15 x1 n1 c1, dsR x1.proof, Y16, bxB 69 (Zj (⟨(⟨0, 0, 0, dz, 0⟩ : Head), 0, dz⟩ : Signed))]) (Zb (Iv 0) (Za (Zc (Zf (Zf (Zg (Zd (slv 0 0 1 c) ?_))))))))))
 refine Z2 (e := [some (0, 0), some (1, 0)]) (nid := 0) (Zwf (G := G) x1 n1 c1 hn1 (by omega) (by omega) c (by omega)) (vals := [slv 0 0 1 c]) (v := Iv 0) (H' := [Y15 x1 n1 c1, dsR x1.proof, Y16, bxB 69 (Zj (⟨(⟨0, 0, 0, dz, 0⟩ : Head), 0, dz⟩ : Signed))]) rfl rfl rfl rfl rfl rfl rfl ⟨⟨⟨rfl, rfl, rfl, by omega, by omega⟩, trivial⟩, ⟨(Zeb rfl rfl (Nat.le_of_eq (by kernel_rfl)) (by kernel_rfl)), (Zhg rfl), trivial⟩, rfl, rfl, rfl⟩ rfl (by kernel_rfl) ?_
 refine Zb (Iv 0) (Za (Zc (Zf (Zg (Zd (Iv 0) ?_)))))
 refine Zl (vx := Iv 0) (vy := Iv 0) rfl rfl (.bool false) rfl rfl (Zdz (by omega)) ?_
 refine Za (Zc (Zu rfl (Z0 (Zc (Zf ?_)))))
 refine Zc1 (by kernel_rfl) ?_
 refine Zd (slv 0 0 1 c) ?_
 refine Zbe (b := 0) (o := 0) (j := 0) (m := 1) (c := c) (sz := 181) (i := 0) (k := .i64) rfl rfl rfl rfl rfl (by omega) (by omega) (by omega) ?_
 refine Za2 (b := 0) (o := 0) (n := 1) (o' := 0 + 1) rfl rfl rfl rfl (by omega) ?_
 refine Zp (p := pt 0 (0 + 1)) (v := Za9 x1.item) (Zd (slv 0 0 1 c) (Zd (slv 0 0 1 c) (Zcu (p := slv 0 0 1 c) (v := Iv 1) ?_)))
 refine Zl (vx := Iv 1) (vy := Iv 1) rfl rfl (Iv 0) rfl rfl (Zc4 (by omega) (by omega) (by omega)) ?_
 refine Zbe (b := 0) (o := 0) (j := 0) (m := 1) (c := c) (sz := 181) (i := 0) (k := .i64) rfl rfl rfl rfl rfl (by omega) (by omega) (by omega) ?_
 refine Za2 (b := 0) (o := 0) (n := 112) (o' := 0 + 112) rfl rfl rfl rfl (by omega) ?_
 refine Zp (p := pt 0 (0 + 112)) (v := Zy x1.head) (Z7 (p := pt 2 0) (v := Za9 x1.item) (b := 2) (blk := bxB 110 (Zs x1.item)) (H' := [Y15 x1 n1 c1, dsR x1.proof, bxB 110 (Zs x1.item), bxB 69 (Zj (⟨(⟨0, 0, 0, dz, 0⟩ : Head), 0, dz⟩ : Signed))]) (Z7 (p := pt 3 0) (v := Zy x1.head) (b := 3) (blk := bxB 69 (Zj x1.head)) (H' := [Y15 x1 n1 c1, dsR x1.proof, bxB 110 (Zs x1.item), bxB 69 (Zj x1.head)]) (Zb (Iv 0) ?_)))
 refine Zb3 (Zgj [[], [0], [0, 1], [0, 1, 2], [], [], [5], [5, 6], [4, 5, 6, 7], [4, 5, 6, 7, 8], [4, 5, 6, 7, 8, 9], [0, 1, 2, 3], [0, 1, 2, 3, 4, 5, 6, 7, 8, 9, 10, 11], [0, 1, 2, 3, 4, 5, 6, 7, 8, 9, 10, 11, 12]] (by kernel_rfl) (by kernel_rfl)) ?_
 refine Zc (Zq (Zr ?_))
 exact Zk (v := .tuple #[Za9 x1.item, Zy x1.head, Iv 0]) (by kernel_rfl) rfl rfl (by kernel_rfl) ⟨(Zin (by kernel_rfl) rfl), (Zin (by kernel_rfl) rfl), rfl, trivial⟩
end Go.Flat
namespace Go.Flat
open Go.Proofs
variable {G : Glob}
section
variable (kk : Nat → BitVec 32)
theorem Zwe {α : Type} (l : List α) (x d : α) : (l ++ [x]).take ((l ++ [x]).length - 1) = l ∧ (l ++ [x]).getD ((l ++ [x]).length - 1) d = x ∧ 0 < (l ++ [x]).length := by
 refine ⟨by simp, ?_, by simp⟩
 rw [List.getD_eq_getElem?_getD]; simp
theorem Zzb {l : List D} {i k : Nat} (h : i < k) : (l.take k).getD i d0 = l.getD i d0 := by
 rw [List.getD_eq_getElem?_getD, List.getD_eq_getElem?_getD, List.getElem?_take, if_pos h]
theorem Zx6 {l : List D} {i k : Nat} (h : k ≤ i) : (l.drop k).getD (i - k) d0 = l.getD i d0 := by
 rw [List.getD_eq_getElem?_getD, List.getD_eq_getElem?_getD, List.getElem?_drop]; congr 2; omega
theorem Z03 : ∀ (n : Nat) (l : List D) (i : Nat), l.length = n → i < n → ∃ w, Zi3 n i (Zcp kk l i) = some w ∧ (knA kk (l.getD i d0) w).getD 0 d0 = Zby kk l := by
 intro n
 induction n using Nat.strongRecOn with
 | ind n ih =>
  intro l i hl hi
  by_cases h2 : 2 ≤ n
  ·obtain ⟨p1, p2⟩ := Zgg h2
   rw [Zs5 kk (by omega), hl]
   by_cases hk : i < Zaz n
   ·rw [Zm5 kk (by omega) (by rw [hl]; exact hk), hl]
    obtain ⟨q1, q2, q3⟩ := Zwe (Zcp kk (l.take (Zaz n)) i) (Zby kk (l.drop (Zaz n))) d0
    obtain ⟨w, w1, w2⟩ := ih (Zaz n) p2 (l.take (Zaz n)) i (by rw [List.length_take]; omega) hk
    rw [Zp1 h2 q3 hk, q1, q2, w1]
    refine ⟨_, rfl, ?_⟩
    rw [Zzb hk] at w2
    simp only [knA, w2]
    rfl
   ·rw [Zng kk (by omega) (by rw [hl]; omega), hl]
    obtain ⟨q1, q2, q3⟩ := Zwe (Zcp kk (l.drop (Zaz n)) (i - Zaz n)) (Zby kk (l.take (Zaz n))) d0
    obtain ⟨w, w1, w2⟩ := ih (n - Zaz n) (by omega) (l.drop (Zaz n)) (i - Zaz n) (by rw [List.length_drop]; omega) (by omega)
    rw [Zpz h2 q3 (by omega), q1, q2, w1]
    refine ⟨_, rfl, ?_⟩
    rw [Zx6 (by omega)] at w2
    simp only [knA, w2]
    rfl
  ·obtain rfl : n = 1 := by omega
   obtain rfl : i = 0 := by omega
   rw [Zh7 kk 0 (by omega), Zk8 _ _ (by decide)]
   refine ⟨[], rfl, ?_⟩
   match l, hl with
   | [x], _ => rfl
theorem Zyy {l : List D} {n i : Nat} (hl : l.length = n) (hi : i < n) (hn : n ≤ 100000) : Zig kk (Zby kk l) (l.getD i d0) (n : Nat) (i : Nat) (Zcp kk l i) = 0 := by
 obtain ⟨w, w1, w2⟩ := Z03 kk n l i hl hi
 unfold Zig
 rw [if_neg (by omega), show (n : Int).toNat = n from rfl, show (i : Int).toNat = i from rfl, w1]
 dsimp only
 rw [w2, Zwb]
 rfl
end
theorem Zll : ∀ (l : List Item) (ep : Int) (i : Nat), Zhk ep l = true → i < l.length → Zcw (l.getD i default)
 | [], _, i, _, h => absurd h (by simp)
 | x :: l, ep, 0, h, _ => by
  rw [Zhk, Bool.and_eq_true, Bool.and_eq_true] at h
  exact of_decide_eq_true h.1.1
 | x :: l, ep, i + 1, h, hi => by
  rw [Zhk, Bool.and_eq_true] at h
  exact Zll l x.epoch i h.2 (by simpa using hi)
theorem Zzg (kk : Nat → BitVec 32) (l : List Item) : ∀ (k i : Nat), i < k → (acL kk l k).getD i d0 = (Zat kk (l.getD i default)).1
 | 0, i, h => by omega
 | k + 1, i, h => by
  rw [acL]
  rcases Nat.lt_or_ge i k with q | q
  ·rw [List.getD_eq_getElem?_getD, List.getElem?_append_left (by rw [Zd2]; exact q), ← List.getD_eq_getElem?_getD]
   exact Zzg kk l k i q
  ·obtain rfl : i = k := by omega
   rw [List.getD_eq_getElem?_getD, List.getElem?_append_right (by rw [Zd2]; exact Nat.le_refl _), Zd2, Nat.sub_self]; rfl
theorem Zp2 {kk : Nat → BitVec 32} {l : List Item} {n : Int} (h : (Zap kk l n).2 = 0) : Zec l ∧ 0 ≤ n ∧ n ≤ l.length ∧ Zap kk l n = (acL kk l n.toNat, 0) := by
 unfold Zap at h ⊢
 split at h
 ·rename_i h1
  split at h
  ·rename_i h2
   exact ⟨h1, h2.1, h2.2, by rw [if_pos h1, if_pos h2]⟩
  ·exact absurd h (by decide)
 ·exact absurd h (by decide)
theorem Z6s {kk : Nat → BitVec 32} {l : List Item} {i : Nat} (h : Zec l) (hi : i < l.length) : (Zat kk (l.getD i default)).2 = 0 := by
 have : Zcw (l.getD i default) := Zll l 0 i h.2 hi
 rw [show Zat kk (l.getD i default) = (lfT kk (Zm (Zca (l.getD i default)).1), 0) from if_pos this]
theorem Z2l {kk : Nat → BitVec 32} {l : List Item} {n i : Int} (h : (Zaf kk l n i).2 = 0) : 0 ≤ i ∧ i < l.length ∧ (Zab kk l n).2 = 0 ∧ (Zat kk (l.getD i.toNat default)).2 = 0 ∧ Zig kk (Zab kk l n).1 (Zat kk (l.getD i.toNat default)).1 n i (Zaf kk l n i).1 = 0 := by
 by_cases h0 : (Zap kk l n).2 = 0
 ·obtain ⟨g1, g2, g3, g4⟩ := Zp2 h0
  have hlen : (Zap kk l n).1.length = n.toNat := by rw [g4]; exact Zd2 _ _ _
  by_cases h1 : 0 ≤ i ∧ i < (Zap kk l n).1.length
  ·rw [hlen] at h1
   have er : Zab kk l n = (Zby kk (acL kk l n.toNat), 0) := by unfold Zab; rw [if_pos h0, g4]
   have ei : Zaf kk l n i = (Zcp kk (acL kk l n.toNat) i.toNat, 0) := by unfold Zaf; rw [if_pos h0, hlen, if_pos h1, g4]
   rw [er, ei]
   refine ⟨h1.1, by omega, rfl, Z6s g1 (by omega), ?_⟩
   have := g1.1
   have hf := Zyy kk (l := acL kk l n.toNat) (n := n.toNat) (i := i.toNat) (Zd2 _ _ _) (by omega) (by omega)
   rw [Zzg kk l n.toNat i.toNat (by omega), show ((n.toNat : Nat) : Int) = n by omega, show ((i.toNat : Nat) : Int) = i by omega] at hf
   exact hf
  ·rw [show Zaf kk l n i = ([], 20) from by unfold Zaf; rw [if_pos h0, if_neg h1]] at h
   exact absurd h (by decide)
 ·rw [show Zaf kk l n i = ([], (Zap kk l n).2) from by unfold Zaf; rw [if_neg h0]] at h
  exact absurd h h0
end Go.Flat
