/- Walks. -/
import Derived.Test.YtbjlgbejbolohaaDoorH3
set_option linter.unusedVariables false
set_option linter.unusedSimpArgs false
set_option maxRecDepth 20000
namespace Go.Flat
open Go.Proofs
variable {G : Glob}
structure Head where
  region : Int
  epoch : Int
  size : Int
  root : D
  tick : Int
structure Signed where
  head : Head
  node : Int
  tag : D
def Zae (h : Head) : List Value := [.int .i64 h.region, .int .i64 h.epoch, .int .i64 h.size] ++ Zaa w8 32 h.root ++ [.int .i64 h.tick]
def Zbp (h : Head) : Value := .agg (Zae h).toArray
def Zt (s : Signed) : List Value := Zae s.head ++ [.int .i64 s.node] ++ Zaa w8 32 s.tag
def Z6 (s : Signed) : Value := .agg (Zt s).toArray
def Zfr : Nat → List ByteArray → List Field
  | _, [] => []
  | k, x :: l => ⟨(k : Int) + 1, x⟩ :: Zfr (k + 1) l
def Zaf (ls : List ByteArray) : Bs := (Zc6 (Zfr 0 ls) 0 []).1
theorem Zzv {ls : List ByteArray} {i : Nat} {acc R : List Field} (hR : acc ++ Zfr i (ls.drop i) = R) (hi : i < ls.length) : (acc ++ [⟨(i : Int) + 1, ls.getD i ⟨#[]⟩⟩]) ++ Zfr (i + 1) (ls.drop (i + 1)) = R := by
 have e : ls.drop i = ls.getD i ⟨#[]⟩ :: ls.drop (i + 1) := by
  rw [List.drop_eq_getElem_cons hi, List.getD_eq_getElem?_getD, List.getElem?_eq_getElem hi]; rfl
 rw [e, Zfr] at hR
 rw [← hR, List.append_assoc]; rfl
def Zf3 (n low high : Int) : Bool :=
  if low ≤ n then (if n ≤ high then true else
  false) else
  false
theorem Zbs (n low high : Int) : Zac Tryd.prog G 27 [Iv n, Iv low, Iv high] [] (.bool (Zf3 n low high)) [] := by
 refine Zb8 (fn := Tryd.f27) (nt := 15) rfl rfl rfl rfl ?_
 refine Ze (Zf (Zc rfl rfl (.bool false) rfl (Za (Zb (Ze (Zf (Zd rfl rfl (Iv n) rfl (Zd rfl rfl (Iv low) rfl ?_))))))))
 by_cases h1 : low ≤ n
 refine Zi (vx := Iv n) (vy := Iv low) rfl rfl (.bool true) rfl rfl (Zit (by omega)) ?_
 refine Zd rfl rfl (.bool true) rfl (Zd rfl rfl (Iv n) rfl (Zd rfl rfl (Iv high) rfl ?_))
 by_cases h2 : n ≤ high
 refine Zi (vx := Iv n) (vy := Iv high) rfl rfl (.bool true) rfl rfl (Zre (by omega)) ?_
 refine Zp rfl rfl (.bool true) rfl (Zc rfl rfl (.bool true) rfl (Za (Zb (Zw (Zy ?_)))))
 rw [show Zf3 n low high = true from by unfold Zf3; rw [if_pos h1, if_pos h2]]
 exact Zo (v := .bool true) rfl rfl rfl (by kernel_rfl) rfl
 refine Zi (vx := Iv n) (vy := Iv high) rfl rfl (.bool false) rfl rfl (Zrd (by omega)) ?_
 refine Zp rfl rfl (.bool false) rfl (Zc rfl rfl (.bool false) rfl (Za (Zb (Zw (Zy ?_)))))
 rw [show Zf3 n low high = false from by unfold Zf3; rw [if_pos h1, if_neg h2]]
 exact Zo (v := .bool false) rfl rfl rfl (by kernel_rfl) rfl
 refine Zi (vx := Iv n) (vy := Iv low) rfl rfl (.bool false) rfl rfl (Zis (by omega)) ?_
 refine Zd rfl rfl (.bool false) rfl (Zn rfl rfl (Zn rfl rfl (Zn rfl rfl (Zp rfl rfl (.bool false) rfl (Zc rfl rfl (.bool false) rfl (Za (Zb (Zw (Zy ?_)))))))))
 rw [show Zf3 n low high = false from by unfold Zf3; rw [if_neg h1]]
 exact Zo (v := .bool false) rfl rfl rfl (by kernel_rfl) rfl
theorem Zgh {n low high : Int} (h1 : low ≤ n) (h2 : n ≤ high) : Zf3 n low high = true := by unfold Zf3; rw [if_pos h1, if_pos h2]
theorem Zc3 {n low high : Int} (h : n < low ∨ high < n) : Zf3 n low high = false := by
 unfold Zf3
 by_cases h1 : low ≤ n
 ·rw [if_pos h1, if_neg (by omega)]
 ·rw [if_neg h1]
def Zbd (h : Head) : Int :=
  if 1 ≤ h.region then (if h.region ≤ 5 then (if 1 ≤ h.epoch then (if h.epoch ≤ 900000000 then (if 0 ≤ h.size then (if h.size ≤ 100000 then (if 0 ≤ h.tick then (if h.tick ≤ 900000000 then 0 else
  70) else
  70) else
  70) else
  70) else
  70) else
  70) else
  70) else
  70
theorem Zs7 (h : Head) : Zac Tryd.prog G 50 [Zbp h] [] (Iv (Zbd h)) [] := by
 refine Zb8 (fn := Tryd.f50) (nt := 21) rfl rfl rfl rfl ?_
 refine Zah 1 (H' := [hole]) rfl ?_
 refine Ze (Zf ?_)
 refine Zdc (v := Zbp h) (b := bxB 36 (Zae h)) (nid := 0) (H' := [bxB 36 (Zae h)]) rfl rfl rfl (by kernel_rfl) (by kernel_rfl) ?_
 refine Zc rfl rfl (Iv 0) rfl (Za (Zb (Ze (Ze (Zf ?_)))))
 refine Zh (b := 0) (o := 0) (n := 0) (o' := 0) rfl rfl rfl rfl rfl ?_
 refine Zg (p := pt 0 0) (v := Iv h.region) rfl rfl rfl (by kernel_rfl) ?_
 by_cases h1 : 1 ≤ h.region
 by_cases h2 : h.region ≤ 5
 refine Zv ((Zbs (G := G) h.region 1 5).res (congrArg Value.bool (Zgh (by omega) (by omega)))) (vals := [Iv h.region, Iv 1, Iv 5]) (res' := .bool true) rfl rfl rfl rfl rfl rfl ?_
 refine Zd rfl rfl (.bool true) rfl ?_
 refine Zh (b := 0) (o := 0) (n := 1) (o' := 1) rfl rfl rfl rfl rfl ?_
 refine Zg (p := pt 0 1) (v := Iv h.epoch) rfl rfl rfl (by kernel_rfl) ?_
 by_cases h3 : 1 ≤ h.epoch
 by_cases h4 : h.epoch ≤ 900000000
 refine Zv ((Zbs (G := G) h.epoch 1 900000000).res (congrArg Value.bool (Zgh (by omega) (by omega)))) (vals := [Iv h.epoch, Iv 1, Iv 900000000]) (res' := .bool true) rfl rfl rfl rfl rfl rfl ?_
 refine Zp rfl rfl (.bool true) rfl (Zd rfl rfl (.bool true) rfl ?_)
 refine Zh (b := 0) (o := 0) (n := 2) (o' := 2) rfl rfl rfl rfl rfl ?_
 refine Zg (p := pt 0 2) (v := Iv h.size) rfl rfl rfl (by kernel_rfl) ?_
 by_cases h5 : 0 ≤ h.size
 by_cases h6 : h.size ≤ 100000
 refine Zv ((Zbs (G := G) h.size 0 100000).res (congrArg Value.bool (Zgh (by omega) (by omega)))) (vals := [Iv h.size, Iv 0, Iv 100000]) (res' := .bool true) rfl rfl rfl rfl rfl rfl ?_
 refine Zp rfl rfl (.bool true) rfl (Zd rfl rfl (.bool true) rfl ?_)
 refine Zh (b := 0) (o := 0) (n := 35) (o' := 35) rfl rfl rfl rfl rfl ?_
 refine Zg (p := pt 0 35) (v := Iv h.tick) rfl rfl rfl (by kernel_rfl) ?_
 by_cases h7 : 0 ≤ h.tick
 by_cases h8 : h.tick ≤ 900000000
 refine Zv ((Zbs (G := G) h.tick 0 900000000).res (congrArg Value.bool (Zgh (by omega) (by omega)))) (vals := [Iv h.tick, Iv 0, Iv 900000000]) (res' := .bool true) rfl rfl rfl rfl rfl rfl ?_
 refine Zp rfl rfl (.bool true) rfl (Za (Zb (Zu rfl (Ze (Zf (Zc rfl rfl (Iv 0) rfl (Za (Zb (Zw (Zaj (Zy ?_)))))))))))
 rw [show Zbd h = 0 from by unfold Zbd; rw [if_pos h1, if_pos h2, if_pos h3, if_pos h4, if_pos h5, if_pos h6, if_pos h7, if_pos h8]]
 exact Zo (v := Iv 0) rfl rfl rfl (by kernel_rfl) rfl
 refine Zv ((Zbs (G := G) h.tick 0 900000000).res (congrArg Value.bool (Zc3 (by omega)))) (vals := [Iv h.tick, Iv 0, Iv 900000000]) (res' := .bool false) rfl rfl rfl rfl rfl rfl ?_
 refine Zp rfl rfl (.bool false) rfl (Za (Zb (Zr rfl (Z0 (Zb (Ze (Zf (Zc rfl rfl (Iv 70) rfl (Za (Zb (Zw (Zy ?_))))))))))))
 rw [show Zbd h = 70 from by unfold Zbd; rw [if_pos h1, if_pos h2, if_pos h3, if_pos h4, if_pos h5, if_pos h6, if_pos h7, if_neg h8]]
 exact Zo (v := Iv 70) rfl rfl rfl (by kernel_rfl) rfl
 refine Zv ((Zbs (G := G) h.tick 0 900000000).res (congrArg Value.bool (Zc3 (by omega)))) (vals := [Iv h.tick, Iv 0, Iv 900000000]) (res' := .bool false) rfl rfl rfl rfl rfl rfl ?_
 refine Zp rfl rfl (.bool false) rfl (Za (Zb (Zr rfl (Z0 (Zb (Ze (Zf (Zc rfl rfl (Iv 70) rfl (Za (Zb (Zw (Zy ?_))))))))))))
 rw [show Zbd h = 70 from by unfold Zbd; rw [if_pos h1, if_pos h2, if_pos h3, if_pos h4, if_pos h5, if_pos h6, if_neg h7]]
 exact Zo (v := Iv 70) rfl rfl rfl (by kernel_rfl) rfl
 refine Zv ((Zbs (G := G) h.size 0 100000).res (congrArg Value.bool (Zc3 (by omega)))) (vals := [Iv h.size, Iv 0, Iv 100000]) (res' := .bool false) rfl rfl rfl rfl rfl rfl ?_
 refine Zp rfl rfl (.bool false) rfl (Zd rfl rfl (.bool false) rfl (Zn rfl rfl (Zn rfl rfl (Zn rfl rfl (Zp rfl rfl (.bool false) rfl (Za (Zb (Zr rfl (Z0 (Zb (Ze (Zf (Zc rfl rfl (Iv 70) rfl (Za (Zb (Zw (Zy ?_)))))))))))))))))
 rw [show Zbd h = 70 from by unfold Zbd; rw [if_pos h1, if_pos h2, if_pos h3, if_pos h4, if_pos h5, if_neg h6]]
 exact Zo (v := Iv 70) rfl rfl rfl (by kernel_rfl) rfl
 refine Zv ((Zbs (G := G) h.size 0 100000).res (congrArg Value.bool (Zc3 (by omega)))) (vals := [Iv h.size, Iv 0, Iv 100000]) (res' := .bool false) rfl rfl rfl rfl rfl rfl ?_
 refine Zp rfl rfl (.bool false) rfl (Zd rfl rfl (.bool false) rfl (Zn rfl rfl (Zn rfl rfl (Zn rfl rfl (Zp rfl rfl (.bool false) rfl (Za (Zb (Zr rfl (Z0 (Zb (Ze (Zf (Zc rfl rfl (Iv 70) rfl (Za (Zb (Zw (Zy ?_)))))))))))))))))
 rw [show Zbd h = 70 from by unfold Zbd; rw [if_pos h1, if_pos h2, if_pos h3, if_pos h4, if_neg h5]]
 exact Zo (v := Iv 70) rfl rfl rfl (by kernel_rfl) rfl
 refine Zv ((Zbs (G := G) h.epoch 1 900000000).res (congrArg Value.bool (Zc3 (by omega)))) (vals := [Iv h.epoch, Iv 1, Iv 900000000]) (res' := .bool false) rfl rfl rfl rfl rfl rfl ?_
 refine Zp rfl rfl (.bool false) rfl (Zd rfl rfl (.bool false) rfl (Zn rfl rfl (Zn rfl rfl (Zn rfl rfl (Zp rfl rfl (.bool false) rfl (Zd rfl rfl (.bool false) rfl (Zn rfl rfl (Zn rfl rfl (Zn rfl rfl (Zp rfl rfl (.bool false) rfl (Za (Zb (Zr rfl (Z0 (Zb (Ze (Zf (Zc rfl rfl (Iv 70) rfl (Za (Zb (Zw (Zy ?_))))))))))))))))))))))
 rw [show Zbd h = 70 from by unfold Zbd; rw [if_pos h1, if_pos h2, if_pos h3, if_neg h4]]
 exact Zo (v := Iv 70) rfl rfl rfl (by kernel_rfl) rfl
 refine Zv ((Zbs (G := G) h.epoch 1 900000000).res (congrArg Value.bool (Zc3 (by omega)))) (vals := [Iv h.epoch, Iv 1, Iv 900000000]) (res' := .bool false) rfl rfl rfl rfl rfl rfl ?_
 refine Zp rfl rfl (.bool false) rfl (Zd rfl rfl (.bool false) rfl (Zn rfl rfl (Zn rfl rfl (Zn rfl rfl (Zp rfl rfl (.bool false) rfl (Zd rfl rfl (.bool false) rfl (Zn rfl rfl (Zn rfl rfl (Zn rfl rfl (Zp rfl rfl (.bool false) rfl (Za (Zb (Zr rfl (Z0 (Zb (Ze (Zf (Zc rfl rfl (Iv 70) rfl (Za (Zb (Zw (Zy ?_))))))))))))))))))))))
 rw [show Zbd h = 70 from by unfold Zbd; rw [if_pos h1, if_pos h2, if_neg h3]]
 exact Zo (v := Iv 70) rfl rfl rfl (by kernel_rfl) rfl
 refine Zv ((Zbs (G := G) h.region 1 5).res (congrArg Value.bool (Zc3 (by omega)))) (vals := [Iv h.region, Iv 1, Iv 5]) (res' := .bool false) rfl rfl rfl rfl rfl rfl ?_
 refine Zd rfl rfl (.bool false) rfl (Zn rfl rfl (Zn rfl rfl (Zn rfl rfl (Zp rfl rfl (.bool false) rfl (Zd rfl rfl (.bool false) rfl (Zn rfl rfl (Zn rfl rfl (Zn rfl rfl (Zp rfl rfl (.bool false) rfl (Zd rfl rfl (.bool false) rfl (Zn rfl rfl (Zn rfl rfl (Zn rfl rfl (Zp rfl rfl (.bool false) rfl (Za (Zb (Zr rfl (Z0 (Zb (Ze (Zf (Zc rfl rfl (Iv 70) rfl (Za (Zb (Zw (Zy ?_))))))))))))))))))))))))))
 rw [show Zbd h = 70 from by unfold Zbd; rw [if_pos h1, if_neg h2]]
 exact Zo (v := Iv 70) rfl rfl rfl (by kernel_rfl) rfl
 refine Zv ((Zbs (G := G) h.region 1 5).res (congrArg Value.bool (Zc3 (by omega)))) (vals := [Iv h.region, Iv 1, Iv 5]) (res' := .bool false) rfl rfl rfl rfl rfl rfl ?_
 refine Zd rfl rfl (.bool false) rfl (Zn rfl rfl (Zn rfl rfl (Zn rfl rfl (Zp rfl rfl (.bool false) rfl (Zd rfl rfl (.bool false) rfl (Zn rfl rfl (Zn rfl rfl (Zn rfl rfl (Zp rfl rfl (.bool false) rfl (Zd rfl rfl (.bool false) rfl (Zn rfl rfl (Zn rfl rfl (Zn rfl rfl (Zp rfl rfl (.bool false) rfl (Za (Zb (Zr rfl (Z0 (Zb (Ze (Zf (Zc rfl rfl (Iv 70) rfl (Za (Zb (Zw (Zy ?_))))))))))))))))))))))))))
 rw [show Zbd h = 70 from by unfold Zbd; rw [if_neg h1]]
 exact Zo (v := Iv 70) rfl rfl rfl (by kernel_rfl) rfl
def Zex (h : Head) : Prop := (1 ≤ h.region ∧ h.region ≤ 5) ∧ (1 ≤ h.epoch ∧ h.epoch ≤ 900000000) ∧ (0 ≤ h.size ∧ h.size ≤ 100000) ∧ (0 ≤ h.tick ∧ h.tick ≤ 900000000)
instance (h : Head) : Decidable (Zex h) := inferInstanceAs (Decidable (_ ∧ _))
theorem Zip (h : Head) : Zbd h = if Zex h then 0 else 70 := by
 unfold Zbd Zex
 repeat (first | split | omega)
theorem Zyv {h : Head} (hc : Zbd h = 0) : (1 ≤ h.region ∧ h.region ≤ 5) ∧ (1 ≤ h.epoch ∧ h.epoch ≤ 900000000) ∧ (0 ≤ h.size ∧ h.size ≤ 100000) ∧ (0 ≤ h.tick ∧ h.tick ≤ 900000000) := by
 rw [Zip] at hc
 split at hc
 ·assumption
 ·omega
def Zek (h : Head) : List ByteArray := [(Zao h.region).1, (Zao h.epoch).1, (Zao h.size).1, Zs (dgL h.root), (Zao h.tick).1]
def Zad (h : Head) : Bs × Int := if Zbd h = 0 then (Zaf (Zek h), 0) else ([], Zbd h)
theorem Zpz (ls : List ByteArray) (n : Nat) (x : ByteArray) (hn : ls.length = n) (hb : n ≤ 1000) : Zac Tryd.prog G 28 [pt 0 0, .string x] [rfB (slv 1 0 n n), txB ls] (.tuple #[]) [rfB (slv 1 0 (n + 1) (n + 1)), txB (ls ++ [x])] := by
  refine Zb8 (fn := Tryd.f28) (nt := 12) rfl rfl rfl rfl ?_
  refine Zah 1 (H' := [rfB (slv 1 0 n n), txB ls, hole]) rfl ?_
  refine Zf (Zd rfl rfl (pt 0 0) rfl (Zd rfl rfl (pt 0 0) rfl ?_))
  refine Z7 (p := pt 0 0) (v := pt 0 0) rfl rfl rfl rfl ?_
  refine Zg (p := pt 0 0) (v := slv 1 0 n n) rfl rfl rfl rfl ?_
  refine Zd rfl rfl (.string x) rfl ?_
  refine Zdd (vs := [(0, .string x)]) (v := slv 2 0 1 1) (blk := txB [x]) (nid := 2) (H' := [rfB (slv 1 0 n n), txB ls, txB [x]]) rfl rfl rfl (by kernel_rfl) (by kernel_rfl) ?_
  have hl2 : (ls ++ [x]).length = n + 1 := by have := hn; have := (rfl : _ = 1); first | (rw [List.length_append]; omega) | (simp; omega) | simp
  refine Za5 (p := slv 1 0 n n) (q := slv 2 0 1 1) (v := slv 1 0 (n + 1) (n + 1)) (b := 1) (blk := txB (ls ++ [x])) (H' := [rfB (dead), txB (ls ++ [x]), txB [x]]) rfl rfl rfl (.inl ⟨_, rfl⟩) rfl rfl (Zht (by_ := 16) (k := 1) (n' := n + 1) (ms := [x]) rfl rfl (by kernel_rfl) rfl (by have := hn; omega) (by omega) (by decide) (by omega)) rfl (by kernel_rfl) ?_
  refine Z7 (p := pt 0 0) (v := pt 0 0) rfl rfl rfl rfl ?_
  refine Zj (p := pt 0 0) (v := slv 1 0 (n + 1) (n + 1)) (b := 0) (blk := rfB (slv 1 0 (n + 1) (n + 1))) (H' := [rfB (slv 1 0 (n + 1) (n + 1)), txB (ls ++ [x]), txB [x]]) rfl rfl rfl (by kernel_rfl) (by kernel_rfl) ?_
  refine Za (Zll ?_)
  exact Zo (v := .tuple #[]) rfl rfl rfl (by simp [Za1, rfB, txB, Zhk, Zdz]) trivial
theorem Zkg (ls : List ByteArray) (n : Nat) (x : Int) (hn : ls.length = n) (hb : n ≤ 1000) (hl : -9223372036854775808 ≤ x) (hh : x ≤ 9223372036854775807) : Zac Tryd.prog G 29 [pt 0 0, Iv x] [rfB (slv 1 0 n n), txB ls] (.tuple #[]) [rfB (slv 1 0 (n + 1) (n + 1)), txB (ls ++ [(Zao x).1])] := by
  refine Zb8 (fn := Tryd.f29) (nt := 19) rfl rfl rfl rfl ?_
  refine Zah 1 (H' := [rfB (slv 1 0 n n), txB ls, hole]) rfl ?_
  refine Ze (Zf (Zd rfl rfl (Iv x) rfl ?_))
  refine Zv (Zyh (G := G) x (by omega) (by omega)) (vals := [Iv x]) (res' := .tuple #[.string ((Zao x).1), Iv ((Zao x).2)]) rfl rfl rfl rfl rfl (by kernel_rfl) ?_
  refine Zd rfl rfl (.tuple #[.string ((Zao x).1), Iv ((Zao x).2)]) rfl (Z5 (vs := #[.string ((Zao x).1), Iv ((Zao x).2)]) (v := .string ((Zao x).1)) rfl rfl rfl rfl (Z5 (vs := #[.string ((Zao x).1), Iv ((Zao x).2)]) (v := Iv ((Zao x).2)) rfl rfl rfl rfl (Zc rfl rfl (.string ((Zao x).1)) rfl (Zc rfl rfl (Iv ((Zao x).2)) rfl (Za (Zb (Zf (Zd rfl rfl (pt 0 0) rfl (Zd rfl rfl (pt 0 0) rfl ?_)))))))))
  refine Z7 (p := pt 0 0) (v := pt 0 0) rfl rfl rfl rfl ?_
  refine Zg (p := pt 0 0) (v := slv 1 0 n n) rfl rfl rfl rfl ?_
  refine Zd rfl rfl (.string ((Zao x).1)) rfl ?_
  refine Zdd (vs := [(0, .string ((Zao x).1))]) (v := slv 2 0 1 1) (blk := txB [(Zao x).1]) (nid := 2) (H' := [rfB (slv 1 0 n n), txB ls, txB [(Zao x).1]]) rfl rfl rfl (by kernel_rfl) (by kernel_rfl) ?_
  have hl2 : (ls ++ [(Zao x).1]).length = n + 1 := by have := hn; have := (rfl : _ = 1); first | (rw [List.length_append]; omega) | (simp; omega) | simp
  refine Za5 (p := slv 1 0 n n) (q := slv 2 0 1 1) (v := slv 1 0 (n + 1) (n + 1)) (b := 1) (blk := txB (ls ++ [(Zao x).1])) (H' := [rfB (dead), txB (ls ++ [(Zao x).1]), txB [(Zao x).1]]) rfl rfl rfl (.inl ⟨_, rfl⟩) rfl rfl (Zht (by_ := 16) (k := 1) (n' := n + 1) (ms := [(Zao x).1]) rfl rfl (by kernel_rfl) rfl (by have := hn; omega) (by omega) (by decide) (by omega)) rfl (by kernel_rfl) ?_
  refine Z7 (p := pt 0 0) (v := pt 0 0) rfl rfl rfl rfl ?_
  refine Zj (p := pt 0 0) (v := slv 1 0 (n + 1) (n + 1)) (b := 0) (blk := rfB (slv 1 0 (n + 1) (n + 1))) (H' := [rfB (slv 1 0 (n + 1) (n + 1)), txB (ls ++ [(Zao x).1]), txB [(Zao x).1]]) rfl rfl rfl (by kernel_rfl) (by kernel_rfl) ?_
  refine Za (Zll ?_)
  exact Zo (v := .tuple #[]) rfl rfl rfl (by simp [Za1, rfB, txB, Zhk, Zdz]) trivial
theorem Ztl (ls : List ByteArray) (n : Nat) (hn : ls.length = n) (hb : n ≤ 1000) : Zac Tryd.prog G 30 [pt 0 0] [rfB (slv 1 0 n n), txB ls] (slv 2 0 (Zaf ls).length (Zaf ls).length) [rfB (slv 1 0 n n), txB ls, Zan (Zaf ls)] := by
  refine Zb8 (fn := Tryd.f30) (nt := 31) rfl rfl rfl rfl ?_
  refine Zah 1 (H' := [rfB (slv 1 0 n n), txB ls, hole]) rfl ?_
  refine Ze (Zf (Zc rfl rfl (.slice none 0 0) rfl (Za (Zb (Ze (Zf (Zc rfl rfl (.slice none 0 0) rfl (Za (Zb (Ze (Ze ?_)))))))))))
  refine Zc8 (Zb2.nilTmp (i := 3) (b := 2) true 2 rfl (by decide) rfl) ?_
  refine Zf (Zd rfl rfl (pt 0 0) rfl ?_)
  refine Z7 (p := pt 0 0) (v := pt 0 0) rfl rfl rfl rfl ?_
  refine Zg (p := pt 0 0) (v := slv 1 0 n n) rfl rfl rfl rfl ?_
  refine Za6 (p := slv 1 0 n n) (v := Iv (n : Nat)) rfl rfl rfl rfl ?_
  refine Zd rfl rfl (Iv 0) rfl (Za (Zb (Z1 ?_)))
  refine Zby (fun x : Nat × (List Field) => match x with | (i, acc) => [pt 0 0, dead, .slice none 0 0, slv 2 0 i i, dead, dead, dead, dead, pt 0 0, pt 0 0, slv 1 0 n n, Iv (n : Nat), Iv (i : Nat)]) (fun x : Nat × (List Field) => match x with | (i, acc) => [rfB (slv 1 0 n n), txB ls, rwB cFd acc]) (fun x : Nat × (List Field) => match x with | (i, acc) => acc ++ Zfr i (ls.drop i) = Zfr 0 ls ∧ i ≤ n ∧ acc.length = i) (fun x : Nat × (List Field) => match x with | (i, acc) => n - i) (0, []) ⟨rfl, by omega, rfl⟩ ?_ ?_
  · refine Z2 (n := 3) rfl ?_ (by kernel_rfl) (by kernel_rfl)
    repeat (first | exact trivial | refine ⟨.inl rfl, ?_⟩ | refine ⟨.inr ⟨rfl, rfl⟩, ?_⟩ | refine ⟨.inr ⟨congrArg (Value.int .i64) (by first | omega | (dsimp only; omega)), rfl⟩, ?_⟩)
  rintro ⟨i, acc⟩ ⟨hR, hi, ha⟩
  dsimp only at *
  refine Zah 2 (H' := [rfB (slv 1 0 n n), txB ls, rwB cFd acc, hole, hole]) rfl ?_
  refine Ze (Zf ?_)
  by_cases h1 : (i : Nat) < (n : Nat)
  refine Zi (vx := Iv (i : Nat)) (vy := Iv (n : Nat)) rfl rfl (.bool true) rfl rfl (Zcv (by omega)) ?_
  refine Za (Zb (Ze (Zu rfl (Z0 (Zb (Ze (Z1 (Ze (Zf (Zd rfl rfl (Iv (i : Nat)) rfl ?_))))))))))
  refine Zbe (b := 1) (o := 0) (j := i) (m := n) (c := n) (sz := 1) (i := (i : Nat)) (k := .i64) rfl rfl rfl rfl rfl (by omega) (by omega) (by omega) ?_
  refine Zg (p := pt 1 i) (v := .string (ls.getD i ⟨#[]⟩)) rfl rfl rfl (Zof rfl rfl rfl (by have := hn; omega)) ?_
  refine Zc rfl rfl (Iv (i : Nat)) rfl (Zc rfl rfl (.string (ls.getD i ⟨#[]⟩)) rfl (Za (Zb (Zf (Zd rfl rfl (slv 2 0 i i) rfl (Zd rfl rfl (Iv (i : Nat)) rfl ?_))))))
  refine Zi (vx := Iv (i : Nat)) (vy := Iv 1) rfl rfl (Iv ((i : Nat) + 1)) rfl rfl (Zap (by omega) (by omega) (by omega)) ?_
  refine Zd rfl rfl (.string (ls.getD i ⟨#[]⟩)) rfl ?_
  refine Zbf (vs := [(0, Iv ((i : Nat) + 1)), (1, .string (ls.getD i ⟨#[]⟩))]) (v := fdV (⟨(i : Nat) + 1, (ls.getD i ⟨#[]⟩)⟩ : Field)) rfl rfl rfl (by kernel_rfl) ?_
  refine Zdd (vs := [(0, fdV (⟨(i : Nat) + 1, (ls.getD i ⟨#[]⟩)⟩ : Field))]) (v := slv 3 0 1 1) (blk := rwB cFd [(⟨(i : Nat) + 1, (ls.getD i ⟨#[]⟩)⟩ : Field)]) (nid := 3) (H' := [rfB (slv 1 0 n n), txB ls, rwB cFd acc, rwB cFd [(⟨(i : Nat) + 1, (ls.getD i ⟨#[]⟩)⟩ : Field)], hole]) rfl rfl rfl (by kernel_rfl) (by kernel_rfl) ?_
  have hl2 : (acc ++ [(⟨(i : Nat) + 1, (ls.getD i ⟨#[]⟩)⟩ : Field)]).length = i + 1 := by have := ha; have := (rfl : _ = 1); first | (rw [List.length_append]; omega) | (simp; omega) | simp
  refine Za5 (p := slv 2 0 i i) (q := slv 3 0 1 1) (v := slv 2 0 (i + 1) (i + 1)) (b := 2) (blk := rwB cFd (acc ++ [(⟨(i : Nat) + 1, (ls.getD i ⟨#[]⟩)⟩ : Field)])) (H' := [rfB (slv 1 0 n n), txB ls, rwB cFd (acc ++ [(⟨(i : Nat) + 1, (ls.getD i ⟨#[]⟩)⟩ : Field)]), rwB cFd [(⟨(i : Nat) + 1, (ls.getD i ⟨#[]⟩)⟩ : Field)], hole]) rfl rfl rfl (.inl ⟨_, rfl⟩) rfl rfl (Zkm cFd (by_ := 24) (k := 1) (n' := i + 1) (ms := [(⟨(i : Nat) + 1, (ls.getD i ⟨#[]⟩)⟩ : Field)]) (fun _ => rfl) rfl rfl (by kernel_rfl) rfl rfl (by have := ha; omega) (by omega) (by decide) (by omega)) rfl (by kernel_rfl) ?_
  refine Zc rfl rfl (slv 2 0 (i + 1) (i + 1)) rfl (Za (Zag (Zb (Zf ?_))))
  refine Zi (vx := Iv (i : Nat)) (vy := Iv 1) rfl rfl (Iv ((i : Nat) + 1)) rfl rfl (Zap (by omega) (by omega) (by omega)) ?_
  refine Zd rfl rfl (Iv ((i : Nat) + 1)) rfl (Za ?_)
  refine Zx ⟨((i + 1), (acc ++ [(⟨(i : Nat) + 1, (ls.getD i ⟨#[]⟩)⟩ : Field)])), ⟨Zzv hR (by omega), by omega, by rw [List.length_append, ha]; rfl⟩, by show n - (i + 1) < n - i; omega, ?_⟩
  refine Z2 (n := 3) rfl ?_ (by kernel_rfl) (by kernel_rfl)
  repeat (first | exact trivial | refine ⟨.inl rfl, ?_⟩ | refine ⟨.inr ⟨rfl, rfl⟩, ?_⟩ | refine ⟨.inr ⟨congrArg (Value.int .i64) (by first | omega | (dsimp only; omega)), rfl⟩, ?_⟩)
  refine Zi (vx := Iv (i : Nat)) (vy := Iv (n : Nat)) rfl rfl (.bool false) rfl rfl (Zbv (by omega)) ?_
  refine Za (Zb (Ze (Zr rfl (Zbx (Zay (Zav (Za2 rfl (Zb (Ze (Zf (Zd rfl rfl (slv 2 0 i i) rfl ?_)))))))))))
  refine Zab (e := [some (2, 0)]) (nid := 3) (Z43 (G := G) acc i i ha (by omega) (by omega)) (vals := [slv 2 0 i i]) (v := .tuple #[slv 3 0 ((Zc6 acc 0 []).1.length) ((Zc6 acc 0 []).1.length), Iv ((Zc6 acc 0 []).2)]) (H' := [rfB (slv 1 0 n n), txB ls, rwB cFd acc, Zan ((Zc6 acc 0 []).1), hole]) rfl rfl rfl rfl rfl rfl rfl ⟨⟨⟨rfl, rfl, rfl, by first | omega | exact Nat.le_refl _, by first | omega | exact Nat.le_refl _⟩, trivial⟩, ⟨(Z3g rfl), trivial⟩, rfl, rfl, rfl⟩ (by kernel_rfl) (by kernel_rfl) ?_
  refine Zd rfl rfl (.tuple #[slv 3 0 ((Zc6 acc 0 []).1.length) ((Zc6 acc 0 []).1.length), Iv ((Zc6 acc 0 []).2)]) rfl (Z5 (vs := #[slv 3 0 ((Zc6 acc 0 []).1.length) ((Zc6 acc 0 []).1.length), Iv ((Zc6 acc 0 []).2)]) (v := slv 3 0 ((Zc6 acc 0 []).1.length) ((Zc6 acc 0 []).1.length)) rfl rfl rfl rfl (Z5 (vs := #[slv 3 0 ((Zc6 acc 0 []).1.length) ((Zc6 acc 0 []).1.length), Iv ((Zc6 acc 0 []).2)]) (v := Iv ((Zc6 acc 0 []).2)) rfl rfl rfl rfl (Zc rfl rfl (slv 3 0 ((Zc6 acc 0 []).1.length) ((Zc6 acc 0 []).1.length)) rfl (Zc rfl rfl (Iv ((Zc6 acc 0 []).2)) rfl (Za (Zb (Ze (Zf (Zd rfl rfl (slv 3 0 ((Zc6 acc 0 []).1.length) ((Zc6 acc 0 []).1.length)) rfl (Zc rfl rfl (slv 3 0 ((Zc6 acc 0 []).1.length) ((Zc6 acc 0 []).1.length)) rfl (Za (Zb (Zw (Zy ?_))))))))))))))
  have hR' : acc = Zfr 0 ls := by rw [← hR, List.drop_of_length_le (by omega)]; simp [Zfr]
  rw [show Zaf ls = (Zc6 acc 0 []).1 from by rw [hR']; rfl]
  exact Zdg [0, 1, 3] (v := slv 3 0 ((Zc6 acc 0 []).1.length) ((Zc6 acc 0 []).1.length)) rfl (by kernel_rfl) rfl rfl (by decide) (by simp [Za1, rfB, txB, Zan, Zhk, Zdz]) ⟨rfl, rfl, rfl, by first | omega | exact Nat.le_refl _ | exact Nat.zero_le _ | (dsimp only; omega), by first | omega | exact Nat.le_refl _ | exact Nat.zero_le _ | (dsimp only; omega)⟩
theorem Zvd (h : Head) : Zac Tryd.prog G 24 [Zbp h] [] (.tuple #[slv 0 0 (Zad h).1.length (Zad h).1.length, Iv (Zad h).2]) [Zan (Zad h).1] := by
  refine Zb8 (fn := Tryd.f24) (nt := 34) rfl rfl rfl rfl ?_
  refine Zah 4 (H' := [hole, hole, hole, hole]) rfl ?_
  refine Ze (Zf ?_)
  refine Zdc (v := Zbp h) (b := bxB 36 (Zae h)) (nid := 0) (H' := [bxB 36 (Zae h), hole, hole, hole]) rfl rfl rfl (by kernel_rfl) (by kernel_rfl) ?_
  refine Zc rfl rfl (.slice none 0 0) rfl (Zc rfl rfl (Iv 0) rfl (Za (Zb (Ze (Ze (Zf ?_))))))
  refine Zg (p := pt 0 0) (v := Zbp h) rfl rfl rfl (by kernel_rfl) ?_
  refine Zv (Zs7 (G := G) h) (vals := [Zbp h]) (res' := Iv (Zbd h)) rfl rfl rfl rfl rfl rfl ?_
  refine Zc rfl rfl (Iv (Zbd h)) rfl (Za (Zb (Ze (Zf (Zd rfl rfl (Iv (Zbd h)) rfl ?_)))))
  by_cases h1 : (Zbd h) ≠ 0
  refine Zi (vx := Iv (Zbd h)) (vy := Iv 0) rfl rfl (.bool true) rfl rfl (Zke (by omega)) ?_
  refine Za (Zb (Zu rfl (Ze (Zf (Zd rfl rfl (Iv (Zbd h)) rfl (Zc rfl rfl (.slice none 0 0) rfl (Zc rfl rfl (Iv (Zbd h)) rfl (Za (Zb ?_)))))))))
  refine Zc8 (Zb2.nilTmp (i := 2) (b := 1) true 1 rfl (by decide) rfl) ?_
  refine Zw (Zaj (Zy ?_))
  rw [show Zad h = ([], (Zbd h)) from if_neg (by omega)]
  exact Zdg [1] (v := .tuple #[slv 1 0 0 0, Iv (Zbd h)]) rfl (by kernel_rfl) rfl rfl (by decide) (by simp [Za1, Zan]) ⟨⟨rfl, rfl, rfl, by first | omega | exact Nat.le_refl _ | exact Nat.zero_le _ | (dsimp only; omega), by first | omega | exact Nat.le_refl _ | exact Nat.zero_le _ | (dsimp only; omega)⟩, rfl, trivial⟩
  refine Zi (vx := Iv (Zbd h)) (vy := Iv 0) rfl rfl (.bool false) rfl rfl (Zen (by omega)) ?_
  refine Za (Zb (Zr rfl (Z0 (Zb (Ze (Zf ?_))))))
  refine Zq (b := rfB (.slice none 0 0)) (nid := 1) (H' := [bxB 36 (Zae h), rfB (.slice none 0 0), hole, hole]) rfl rfl (by kernel_rfl) (by kernel_rfl) ?_
  refine Za (Zb (Ze ?_))
  have hc := Zyv (h := h) (by omega)
  refine Zc8 (Zb2.nilCell (k := 1) (j := 0) (b := 2) true 1 rfl (by decide) rfl (by show 0 < 1; decide) rfl rfl) ?_
  refine Zf ?_
  refine Zfq (vs := [pt 1 0]) (ws := []) rfl rfl rfl rfl rfl ?_
  refine Zc rfl rfl (.func (.func 29) #[pt 1 0] #[]) rfl (Za (Zb (Ze (Zf (Zd rfl rfl (.func (.func 29) #[pt 1 0] #[]) rfl ?_)))))
  refine Zh (b := 0) (o := 0) (n := 0) (o' := 0) rfl rfl rfl rfl rfl ?_
  refine Zg (p := pt 0 0) (v := Iv h.region) rfl rfl rfl (by kernel_rfl) ?_
  refine Zev (e := [some (1, 0), some (2, 0)]) (nid := 0) (Zkg (G := G) [] 0 h.region rfl (by omega) (by omega) (by omega)) (vals := [pt 1 0, Iv h.region]) (v := .tuple #[]) (H' := [bxB 36 (Zae h), rfB (slv 2 0 1 1), txB ([] ++ [(Zao h.region).1]), hole]) rfl rfl rfl rfl rfl rfl ⟨⟨⟨rfl, rfl⟩, rfl, trivial⟩, ⟨(Zal rfl rfl rfl rfl), (Zal rfl rfl rfl rfl), trivial⟩, rfl, rfl, rfl, Nat.le_refl _⟩ (by kernel_rfl) rfl (by kernel_rfl) ?_
  refine Za (Zb (Ze (Zf (Zd rfl rfl (.func (.func 29) #[pt 1 0] #[]) rfl ?_))))
  refine Zh (b := 0) (o := 0) (n := 1) (o' := 1) rfl rfl rfl rfl rfl ?_
  refine Zg (p := pt 0 1) (v := Iv h.epoch) rfl rfl rfl (by kernel_rfl) ?_
  refine Zev (e := [some (1, 0), some (2, 0)]) (nid := 0) (Zkg (G := G) ([] ++ [(Zao h.region).1]) 1 h.epoch rfl (by omega) (by omega) (by omega)) (vals := [pt 1 0, Iv h.epoch]) (v := .tuple #[]) (H' := [bxB 36 (Zae h), rfB (slv 2 0 2 2), txB (([] ++ [(Zao h.region).1]) ++ [(Zao h.epoch).1]), hole]) rfl rfl rfl rfl rfl rfl ⟨⟨⟨rfl, rfl⟩, rfl, trivial⟩, ⟨(Zal rfl rfl rfl rfl), (Zal rfl rfl rfl rfl), trivial⟩, rfl, rfl, rfl, Nat.le_refl _⟩ (by kernel_rfl) rfl (by kernel_rfl) ?_
  refine Za (Zb (Ze (Zf (Zd rfl rfl (.func (.func 29) #[pt 1 0] #[]) rfl ?_))))
  refine Zh (b := 0) (o := 0) (n := 2) (o' := 2) rfl rfl rfl rfl rfl ?_
  refine Zg (p := pt 0 2) (v := Iv h.size) rfl rfl rfl (by kernel_rfl) ?_
  refine Zev (e := [some (1, 0), some (2, 0)]) (nid := 0) (Zkg (G := G) (([] ++ [(Zao h.region).1]) ++ [(Zao h.epoch).1]) 2 h.size rfl (by omega) (by omega) (by omega)) (vals := [pt 1 0, Iv h.size]) (v := .tuple #[]) (H' := [bxB 36 (Zae h), rfB (slv 2 0 3 3), txB ((([] ++ [(Zao h.region).1]) ++ [(Zao h.epoch).1]) ++ [(Zao h.size).1]), hole]) rfl rfl rfl rfl rfl rfl ⟨⟨⟨rfl, rfl⟩, rfl, trivial⟩, ⟨(Zal rfl rfl rfl rfl), (Zal rfl rfl rfl rfl), trivial⟩, rfl, rfl, rfl, Nat.le_refl _⟩ (by kernel_rfl) rfl (by kernel_rfl) ?_
  refine Za (Zb (Ze (Zf ?_)))
  refine Zh (b := 0) (o := 0) (n := 3) (o' := 3) rfl rfl rfl rfl rfl ?_
  refine Zci (p := pt 0 3) (vl := none) (vh := none) (v := slv 0 3 32 32) rfl rfl rfl rfl rfl rfl ?_
  refine Zgy (p := slv 0 3 32 32) (v := .string (Zs (dgL h.root))) rfl rfl rfl (Zec (l := (dgL h.root)) rfl rfl rfl rfl (of_decide_eq_true (by kernel_rfl)) (by kernel_rfl)) ?_
  refine Zev (e := [some (1, 0), some (2, 0)]) (nid := 0) (Zpz (G := G) ((([] ++ [(Zao h.region).1]) ++ [(Zao h.epoch).1]) ++ [(Zao h.size).1]) 3 (Zs (dgL h.root)) rfl (by omega)) (vals := [pt 1 0, .string (Zs (dgL h.root))]) (v := .tuple #[]) (H' := [bxB 36 (Zae h), rfB (slv 2 0 4 4), txB (((([] ++ [(Zao h.region).1]) ++ [(Zao h.epoch).1]) ++ [(Zao h.size).1]) ++ [(Zs (dgL h.root))]), hole]) rfl rfl rfl rfl rfl rfl ⟨⟨⟨rfl, rfl⟩, rfl, trivial⟩, ⟨(Zal rfl rfl rfl rfl), (Zal rfl rfl rfl rfl), trivial⟩, rfl, rfl, rfl, Nat.le_refl _⟩ (by kernel_rfl) rfl (by kernel_rfl) ?_
  refine Za (Zb (Ze (Zf (Zd rfl rfl (.func (.func 29) #[pt 1 0] #[]) rfl ?_))))
  refine Zh (b := 0) (o := 0) (n := 35) (o' := 35) rfl rfl rfl rfl rfl ?_
  refine Zg (p := pt 0 35) (v := Iv h.tick) rfl rfl rfl (by kernel_rfl) ?_
  refine Zev (e := [some (1, 0), some (2, 0)]) (nid := 0) (Zkg (G := G) (((([] ++ [(Zao h.region).1]) ++ [(Zao h.epoch).1]) ++ [(Zao h.size).1]) ++ [(Zs (dgL h.root))]) 4 h.tick rfl (by omega) (by omega) (by omega)) (vals := [pt 1 0, Iv h.tick]) (v := .tuple #[]) (H' := [bxB 36 (Zae h), rfB (slv 2 0 5 5), txB ((((([] ++ [(Zao h.region).1]) ++ [(Zao h.epoch).1]) ++ [(Zao h.size).1]) ++ [(Zs (dgL h.root))]) ++ [(Zao h.tick).1]), hole]) rfl rfl rfl rfl rfl rfl ⟨⟨⟨rfl, rfl⟩, rfl, trivial⟩, ⟨(Zal rfl rfl rfl rfl), (Zal rfl rfl rfl rfl), trivial⟩, rfl, rfl, rfl, Nat.le_refl _⟩ (by kernel_rfl) rfl (by kernel_rfl) ?_
  refine Za (Zb (Ze (Zf ?_)))
  refine Zev (e := [some (1, 0), some (2, 0)]) (nid := 3) (Ztl (G := G) ((((([] ++ [(Zao h.region).1]) ++ [(Zao h.epoch).1]) ++ [(Zao h.size).1]) ++ [(Zs (dgL h.root))]) ++ [(Zao h.tick).1]) 5 rfl (by omega)) (vals := [pt 1 0]) (v := slv 3 0 ((Zaf ((((([] ++ [(Zao h.region).1]) ++ [(Zao h.epoch).1]) ++ [(Zao h.size).1]) ++ [(Zs (dgL h.root))]) ++ [(Zao h.tick).1])).length) ((Zaf ((((([] ++ [(Zao h.region).1]) ++ [(Zao h.epoch).1]) ++ [(Zao h.size).1]) ++ [(Zs (dgL h.root))]) ++ [(Zao h.tick).1])).length)) (H' := [bxB 36 (Zae h), rfB (slv 2 0 5 5), txB ((((([] ++ [(Zao h.region).1]) ++ [(Zao h.epoch).1]) ++ [(Zao h.size).1]) ++ [(Zs (dgL h.root))]) ++ [(Zao h.tick).1]), Zan (Zaf ((((([] ++ [(Zao h.region).1]) ++ [(Zao h.epoch).1]) ++ [(Zao h.size).1]) ++ [(Zs (dgL h.root))]) ++ [(Zao h.tick).1]))]) rfl rfl rfl rfl rfl rfl ⟨⟨⟨rfl, rfl⟩, trivial⟩, ⟨(Zal rfl rfl rfl rfl), (Zal rfl rfl rfl rfl), trivial⟩, rfl, rfl, rfl, Nat.le_refl _⟩ rfl rfl (by kernel_rfl) ?_
  refine Zc rfl rfl (slv 3 0 ((Zaf ((((([] ++ [(Zao h.region).1]) ++ [(Zao h.epoch).1]) ++ [(Zao h.size).1]) ++ [(Zs (dgL h.root))]) ++ [(Zao h.tick).1])).length) ((Zaf ((((([] ++ [(Zao h.region).1]) ++ [(Zao h.epoch).1]) ++ [(Zao h.size).1]) ++ [(Zs (dgL h.root))]) ++ [(Zao h.tick).1])).length)) rfl ?_
  refine Zc rfl rfl (Iv 0) rfl (Za (Zb (Zw (Zy ?_))))
  rw [show Zad h = ((Zaf ((((([] ++ [(Zao h.region).1]) ++ [(Zao h.epoch).1]) ++ [(Zao h.size).1]) ++ [(Zs (dgL h.root))]) ++ [(Zao h.tick).1])), 0) from if_pos (by omega)]
  exact Zdg [3] (v := .tuple #[slv 3 0 ((Zaf ((((([] ++ [(Zao h.region).1]) ++ [(Zao h.epoch).1]) ++ [(Zao h.size).1]) ++ [(Zs (dgL h.root))]) ++ [(Zao h.tick).1])).length) ((Zaf ((((([] ++ [(Zao h.region).1]) ++ [(Zao h.epoch).1]) ++ [(Zao h.size).1]) ++ [(Zs (dgL h.root))]) ++ [(Zao h.tick).1])).length), Iv 0]) rfl (by kernel_rfl) rfl rfl (by decide) (by simp [Za1, Zan]) ⟨⟨rfl, rfl, rfl, by first | omega | exact Nat.le_refl _ | exact Nat.zero_le _ | (dsimp only; omega), by first | omega | exact Nat.le_refl _ | exact Nat.zero_le _ | (dsimp only; omega)⟩, rfl, trivial⟩
end Go.Flat
