/- Walks. -/
import Derived.Test.YtoheeojjdpdljaaDoorH3
set_option linter.unusedVariables false
set_option linter.unusedSimpArgs false
set_option maxRecDepth 20000
namespace Go.Flat
open Go.Proofs
variable {G : Glob}
structure Head where
  region : Int
  epoch : Int
  size : Int
  root : D
  tick : Int
structure Signed where
  head : Head
  node : Int
  tag : D
def Zan (h : Head) : List Value := [.int .i64 h.region, .int .i64 h.epoch, .int .i64 h.size] ++ Zbx w8 32 h.root ++ [.int .i64 h.tick]
def Zbf (h : Head) : Value := .agg (Zan h).toArray
def Z3 (s : Signed) : List Value := Zan s.head ++ [.int .i64 s.node] ++ Zbx w8 32 s.tag
def Zaa (s : Signed) : Value := .agg (Z3 s).toArray
def Zd0 : Nat → List ByteArray → List Field
  | _, [] => []
  | k, x :: l => ⟨(k : Int) + 1, x⟩ :: Zd0 (k + 1) l
def Zaj (ls : List ByteArray) : Bs := (Z6 (Zd0 0 ls) 0 []).1
theorem Zyn {ls : List ByteArray} {i : Nat} {acc R : List Field} (hR : acc ++ Zd0 i (ls.drop i) = R) (hi : i < ls.length) : (acc ++ [⟨(i : Int) + 1, ls.getD i ⟨#[]⟩⟩]) ++ Zd0 (i + 1) (ls.drop (i + 1)) = R := by
 have e : ls.drop i = ls.getD i ⟨#[]⟩ :: ls.drop (i + 1) := by
  rw [List.drop_eq_getElem_cons hi, List.getD_eq_getElem?_getD, List.getElem?_eq_getElem hi]; rfl
 rw [e, Zd0] at hR
 rw [← hR, List.append_assoc]; rfl
def Zc3 (n low high : Int) : Bool :=
  if low ≤ n then (if n ≤ high then true else
  false) else
  false
theorem Zcs (n low high : Int) : Zao Tryd.prog G 58 [Iv n, Iv low, Iv high] [] (.bool (Zc3 n low high)) [] := by
 refine Zbv (fn := Tryd.f58) (nt := 15) rfl rfl rfl rfl ?_
 refine Zg (Zi (Zb rfl rfl (.bool false) rfl (Za (Zc (Zg (Zi (Zd rfl rfl (Iv n) rfl (Zd rfl rfl (Iv low) rfl ?_))))))))
 by_cases h1 : low ≤ n
 refine Zn (vx := Iv n) (vy := Iv low) rfl rfl (.bool true) rfl rfl (Zq2 (by omega)) ?_
 refine Zd rfl rfl (.bool true) rfl (Zd rfl rfl (Iv n) rfl (Zd rfl rfl (Iv high) rfl ?_))
 by_cases h2 : n ≤ high
 refine Zn (vx := Iv n) (vy := Iv high) rfl rfl (.bool true) rfl rfl (Zmf (by omega)) ?_
 refine Zk rfl rfl (.bool true) rfl (Zb rfl rfl (.bool true) rfl (Za (Zc (Zv (Zu ?_)))))
 rw [show Zc3 n low high = true from by unfold Zc3; rw [if_pos h1, if_pos h2]]
 exact Zm (v := .bool true) rfl rfl rfl (by kernel_rfl) rfl
 refine Zn (vx := Iv n) (vy := Iv high) rfl rfl (.bool false) rfl rfl (Zk8 (by omega)) ?_
 refine Zk rfl rfl (.bool false) rfl (Zb rfl rfl (.bool false) rfl (Za (Zc (Zv (Zu ?_)))))
 rw [show Zc3 n low high = false from by unfold Zc3; rw [if_pos h1, if_neg h2]]
 exact Zm (v := .bool false) rfl rfl rfl (by kernel_rfl) rfl
 refine Zn (vx := Iv n) (vy := Iv low) rfl rfl (.bool false) rfl rfl (Zrb (by omega)) ?_
 refine Zd rfl rfl (.bool false) rfl (Zf rfl rfl (Zf rfl rfl (Zf rfl rfl (Zk rfl rfl (.bool false) rfl (Zb rfl rfl (.bool false) rfl (Za (Zc (Zv (Zu ?_)))))))))
 rw [show Zc3 n low high = false from by unfold Zc3; rw [if_neg h1]]
 exact Zm (v := .bool false) rfl rfl rfl (by kernel_rfl) rfl
theorem Zbg {n low high : Int} (h1 : low ≤ n) (h2 : n ≤ high) : Zc3 n low high = true := by unfold Zc3; rw [if_pos h1, if_pos h2]
theorem Zah {n low high : Int} (h : n < low ∨ high < n) : Zc3 n low high = false := by
 unfold Zc3
 by_cases h1 : low ≤ n
 ·rw [if_pos h1, if_neg (by omega)]
 ·rw [if_neg h1]
def Zbm (h : Head) : Int :=
  if 1 ≤ h.region then (if h.region ≤ 5 then (if 1 ≤ h.epoch then (if h.epoch ≤ 900000000 then (if 0 ≤ h.size then (if h.size ≤ 100000 then (if 0 ≤ h.tick then (if h.tick ≤ 900000000 then 0 else
  70) else
  70) else
  70) else
  70) else
  70) else
  70) else
  70) else
  70
theorem Zoj (h : Head) : Zao Tryd.prog G 34 [Zbf h] [] (Iv (Zbm h)) [] := by
 refine Zbv (fn := Tryd.f34) (nt := 21) rfl rfl rfl rfl ?_
 refine Zat 1 (H' := [hole]) rfl ?_
 refine Zg (Zi ?_)
 refine Zel (v := Zbf h) (b := bxB 36 (Zan h)) (nid := 0) (H' := [bxB 36 (Zan h)]) rfl rfl rfl (by kernel_rfl) (by kernel_rfl) ?_
 refine Zb rfl rfl (Iv 0) rfl (Za (Zc (Zg (Zg (Zi ?_)))))
 refine Zj (b := 0) (o := 0) (n := 0) (o' := 0) rfl rfl rfl rfl rfl ?_
 refine Zo (p := pt 0 0) (v := Iv h.region) rfl rfl rfl (by kernel_rfl) ?_
 by_cases h1 : 1 ≤ h.region
 by_cases h2 : h.region ≤ 5
 refine Zs ((Zcs (G := G) h.region 1 5).res (congrArg Value.bool (Zbg (by omega) (by omega)))) (vals := [Iv h.region, Iv 1, Iv 5]) (res' := .bool true) rfl rfl rfl rfl rfl rfl ?_
 refine Zd rfl rfl (.bool true) rfl ?_
 refine Zj (b := 0) (o := 0) (n := 1) (o' := 1) rfl rfl rfl rfl rfl ?_
 refine Zo (p := pt 0 1) (v := Iv h.epoch) rfl rfl rfl (by kernel_rfl) ?_
 by_cases h3 : 1 ≤ h.epoch
 by_cases h4 : h.epoch ≤ 900000000
 refine Zs ((Zcs (G := G) h.epoch 1 900000000).res (congrArg Value.bool (Zbg (by omega) (by omega)))) (vals := [Iv h.epoch, Iv 1, Iv 900000000]) (res' := .bool true) rfl rfl rfl rfl rfl rfl ?_
 refine Zk rfl rfl (.bool true) rfl (Zd rfl rfl (.bool true) rfl ?_)
 refine Zj (b := 0) (o := 0) (n := 2) (o' := 2) rfl rfl rfl rfl rfl ?_
 refine Zo (p := pt 0 2) (v := Iv h.size) rfl rfl rfl (by kernel_rfl) ?_
 by_cases h5 : 0 ≤ h.size
 by_cases h6 : h.size ≤ 100000
 refine Zs ((Zcs (G := G) h.size 0 100000).res (congrArg Value.bool (Zbg (by omega) (by omega)))) (vals := [Iv h.size, Iv 0, Iv 100000]) (res' := .bool true) rfl rfl rfl rfl rfl rfl ?_
 refine Zk rfl rfl (.bool true) rfl (Zd rfl rfl (.bool true) rfl ?_)
 refine Zj (b := 0) (o := 0) (n := 35) (o' := 35) rfl rfl rfl rfl rfl ?_
 refine Zo (p := pt 0 35) (v := Iv h.tick) rfl rfl rfl (by kernel_rfl) ?_
 by_cases h7 : 0 ≤ h.tick
 by_cases h8 : h.tick ≤ 900000000
 refine Zs ((Zcs (G := G) h.tick 0 900000000).res (congrArg Value.bool (Zbg (by omega) (by omega)))) (vals := [Iv h.tick, Iv 0, Iv 900000000]) (res' := .bool true) rfl rfl rfl rfl rfl rfl ?_
 refine Zk rfl rfl (.bool true) rfl (Za (Zc (Z0 rfl (Zg (Zi (Zb rfl rfl (Iv 0) rfl (Za (Zc (Zv (Z5 (Zu ?_)))))))))))
 rw [show Zbm h = 0 from by unfold Zbm; rw [if_pos h1, if_pos h2, if_pos h3, if_pos h4, if_pos h5, if_pos h6, if_pos h7, if_pos h8]]
 exact Zm (v := Iv 0) rfl rfl rfl (by kernel_rfl) rfl
 refine Zs ((Zcs (G := G) h.tick 0 900000000).res (congrArg Value.bool (Zah (by omega)))) (vals := [Iv h.tick, Iv 0, Iv 900000000]) (res' := .bool false) rfl rfl rfl rfl rfl rfl ?_
 refine Zk rfl rfl (.bool false) rfl (Za (Zc (Zx rfl (Zai (Zc (Zg (Zi (Zb rfl rfl (Iv 70) rfl (Za (Zc (Zv (Zu ?_))))))))))))
 rw [show Zbm h = 70 from by unfold Zbm; rw [if_pos h1, if_pos h2, if_pos h3, if_pos h4, if_pos h5, if_pos h6, if_pos h7, if_neg h8]]
 exact Zm (v := Iv 70) rfl rfl rfl (by kernel_rfl) rfl
 refine Zs ((Zcs (G := G) h.tick 0 900000000).res (congrArg Value.bool (Zah (by omega)))) (vals := [Iv h.tick, Iv 0, Iv 900000000]) (res' := .bool false) rfl rfl rfl rfl rfl rfl ?_
 refine Zk rfl rfl (.bool false) rfl (Za (Zc (Zx rfl (Zai (Zc (Zg (Zi (Zb rfl rfl (Iv 70) rfl (Za (Zc (Zv (Zu ?_))))))))))))
 rw [show Zbm h = 70 from by unfold Zbm; rw [if_pos h1, if_pos h2, if_pos h3, if_pos h4, if_pos h5, if_pos h6, if_neg h7]]
 exact Zm (v := Iv 70) rfl rfl rfl (by kernel_rfl) rfl
 refine Zs ((Zcs (G := G) h.size 0 100000).res (congrArg Value.bool (Zah (by omega)))) (vals := [Iv h.size, Iv 0, Iv 100000]) (res' := .bool false) rfl rfl rfl rfl rfl rfl ?_
 refine Zk rfl rfl (.bool false) rfl (Zd rfl rfl (.bool false) rfl (Zf rfl rfl (Zf rfl rfl (Zf rfl rfl (Zk rfl rfl (.bool false) rfl (Za (Zc (Zx rfl (Zai (Zc (Zg (Zi (Zb rfl rfl (Iv 70) rfl (Za (Zc (Zv (Zu ?_)))))))))))))))))
 rw [show Zbm h = 70 from by unfold Zbm; rw [if_pos h1, if_pos h2, if_pos h3, if_pos h4, if_pos h5, if_neg h6]]
 exact Zm (v := Iv 70) rfl rfl rfl (by kernel_rfl) rfl
 refine Zs ((Zcs (G := G) h.size 0 100000).res (congrArg Value.bool (Zah (by omega)))) (vals := [Iv h.size, Iv 0, Iv 100000]) (res' := .bool false) rfl rfl rfl rfl rfl rfl ?_
 refine Zk rfl rfl (.bool false) rfl (Zd rfl rfl (.bool false) rfl (Zf rfl rfl (Zf rfl rfl (Zf rfl rfl (Zk rfl rfl (.bool false) rfl (Za (Zc (Zx rfl (Zai (Zc (Zg (Zi (Zb rfl rfl (Iv 70) rfl (Za (Zc (Zv (Zu ?_)))))))))))))))))
 rw [show Zbm h = 70 from by unfold Zbm; rw [if_pos h1, if_pos h2, if_pos h3, if_pos h4, if_neg h5]]
 exact Zm (v := Iv 70) rfl rfl rfl (by kernel_rfl) rfl
 refine Zs ((Zcs (G := G) h.epoch 1 900000000).res (congrArg Value.bool (Zah (by omega)))) (vals := [Iv h.epoch, Iv 1, Iv 900000000]) (res' := .bool false) rfl rfl rfl rfl rfl rfl ?_
 refine Zk rfl rfl (.bool false) rfl (Zd rfl rfl (.bool false) rfl (Zf rfl rfl (Zf rfl rfl (Zf rfl rfl (Zk rfl rfl (.bool false) rfl (Zd rfl rfl (.bool false) rfl (Zf rfl rfl (Zf rfl rfl (Zf rfl rfl (Zk rfl rfl (.bool false) rfl (Za (Zc (Zx rfl (Zai (Zc (Zg (Zi (Zb rfl rfl (Iv 70) rfl (Za (Zc (Zv (Zu ?_))))))))))))))))))))))
 rw [show Zbm h = 70 from by unfold Zbm; rw [if_pos h1, if_pos h2, if_pos h3, if_neg h4]]
 exact Zm (v := Iv 70) rfl rfl rfl (by kernel_rfl) rfl
 refine Zs ((Zcs (G := G) h.epoch 1 900000000).res (congrArg Value.bool (Zah (by omega)))) (vals := [Iv h.epoch, Iv 1, Iv 900000000]) (res' := .bool false) rfl rfl rfl rfl rfl rfl ?_
 refine Zk rfl rfl (.bool false) rfl (Zd rfl rfl (.bool false) rfl (Zf rfl rfl (Zf rfl rfl (Zf rfl rfl (Zk rfl rfl (.bool false) rfl (Zd rfl rfl (.bool false) rfl (Zf rfl rfl (Zf rfl rfl (Zf rfl rfl (Zk rfl rfl (.bool false) rfl (Za (Zc (Zx rfl (Zai (Zc (Zg (Zi (Zb rfl rfl (Iv 70) rfl (Za (Zc (Zv (Zu ?_))))))))))))))))))))))
 rw [show Zbm h = 70 from by unfold Zbm; rw [if_pos h1, if_pos h2, if_neg h3]]
 exact Zm (v := Iv 70) rfl rfl rfl (by kernel_rfl) rfl
 refine Zs ((Zcs (G := G) h.region 1 5).res (congrArg Value.bool (Zah (by omega)))) (vals := [Iv h.region, Iv 1, Iv 5]) (res' := .bool false) rfl rfl rfl rfl rfl rfl ?_
 refine Zd rfl rfl (.bool false) rfl (Zf rfl rfl (Zf rfl rfl (Zf rfl rfl (Zk rfl rfl (.bool false) rfl (Zd rfl rfl (.bool false) rfl (Zf rfl rfl (Zf rfl rfl (Zf rfl rfl (Zk rfl rfl (.bool false) rfl (Zd rfl rfl (.bool false) rfl (Zf rfl rfl (Zf rfl rfl (Zf rfl rfl (Zk rfl rfl (.bool false) rfl (Za (Zc (Zx rfl (Zai (Zc (Zg (Zi (Zb rfl rfl (Iv 70) rfl (Za (Zc (Zv (Zu ?_))))))))))))))))))))))))))
 rw [show Zbm h = 70 from by unfold Zbm; rw [if_pos h1, if_neg h2]]
 exact Zm (v := Iv 70) rfl rfl rfl (by kernel_rfl) rfl
 refine Zs ((Zcs (G := G) h.region 1 5).res (congrArg Value.bool (Zah (by omega)))) (vals := [Iv h.region, Iv 1, Iv 5]) (res' := .bool false) rfl rfl rfl rfl rfl rfl ?_
 refine Zd rfl rfl (.bool false) rfl (Zf rfl rfl (Zf rfl rfl (Zf rfl rfl (Zk rfl rfl (.bool false) rfl (Zd rfl rfl (.bool false) rfl (Zf rfl rfl (Zf rfl rfl (Zf rfl rfl (Zk rfl rfl (.bool false) rfl (Zd rfl rfl (.bool false) rfl (Zf rfl rfl (Zf rfl rfl (Zf rfl rfl (Zk rfl rfl (.bool false) rfl (Za (Zc (Zx rfl (Zai (Zc (Zg (Zi (Zb rfl rfl (Iv 70) rfl (Za (Zc (Zv (Zu ?_))))))))))))))))))))))))))
 rw [show Zbm h = 70 from by unfold Zbm; rw [if_neg h1]]
 exact Zm (v := Iv 70) rfl rfl rfl (by kernel_rfl) rfl
def Zbt (h : Head) : Prop := (1 ≤ h.region ∧ h.region ≤ 5) ∧ (1 ≤ h.epoch ∧ h.epoch ≤ 900000000) ∧ (0 ≤ h.size ∧ h.size ≤ 100000) ∧ (0 ≤ h.tick ∧ h.tick ≤ 900000000)
instance (h : Head) : Decidable (Zbt h) := inferInstanceAs (Decidable (_ ∧ _))
theorem Zgo (h : Head) : Zbm h = if Zbt h then 0 else 70 := by
 unfold Zbm Zbt
 repeat (first | split | omega)
theorem Zyb {h : Head} (hc : Zbm h = 0) : (1 ≤ h.region ∧ h.region ≤ 5) ∧ (1 ≤ h.epoch ∧ h.epoch ≤ 900000000) ∧ (0 ≤ h.size ∧ h.size ≤ 100000) ∧ (0 ≤ h.tick ∧ h.tick ≤ 900000000) := by
 rw [Zgo] at hc
 split at hc
 ·assumption
 ·omega
def Zcg (h : Head) : List ByteArray := [(Zp h.region).1, (Zp h.epoch).1, (Zp h.size).1, Zl (dgL h.root), (Zp h.tick).1]
def Zcl (h : Head) : Bs × Int := if Zbm h = 0 then (Zaj (Zcg h), 0) else ([], Zbm h)
theorem Zor (ls : List ByteArray) (n : Nat) (x : ByteArray) (hn : ls.length = n) (hb : n ≤ 1000) : Zao Tryd.prog G 59 [pt 0 0, .string x] [rfB (slv 1 0 n n), txB ls] (.tuple #[]) [rfB (slv 1 0 (n + 1) (n + 1)), txB (ls ++ [x])] := by
  refine Zbv (fn := Tryd.f59) (nt := 12) rfl rfl rfl rfl ?_
  refine Zat 1 (H' := [rfB (slv 1 0 n n), txB ls, hole]) rfl ?_
  refine Zi (Zd rfl rfl (pt 0 0) rfl (Zd rfl rfl (pt 0 0) rfl ?_))
  refine Zag (p := pt 0 0) (v := pt 0 0) rfl rfl rfl rfl ?_
  refine Zo (p := pt 0 0) (v := slv 1 0 n n) rfl rfl rfl rfl ?_
  refine Zd rfl rfl (.string x) rfl ?_
  refine Zd5 (vs := [(0, .string x)]) (v := slv 2 0 1 1) (blk := txB [x]) (nid := 2) (H' := [rfB (slv 1 0 n n), txB ls, txB [x]]) rfl rfl rfl (by kernel_rfl) (by kernel_rfl) ?_
  have hl2 : (ls ++ [x]).length = n + 1 := by have := hn; have := (rfl : _ = 1); first | (rw [List.length_append]; omega) | (simp; omega) | simp
  refine Zbz (p := slv 1 0 n n) (q := slv 2 0 1 1) (v := slv 1 0 (n + 1) (n + 1)) (b := 1) (blk := txB (ls ++ [x])) (H' := [rfB (dead), txB (ls ++ [x]), txB [x]]) rfl rfl rfl (.inl ⟨_, rfl⟩) rfl rfl (Zhf (by_ := 16) (k := 1) (n' := n + 1) (ms := [x]) rfl rfl (by kernel_rfl) rfl (by have := hn; omega) (by omega) (by decide) (by omega)) rfl (by kernel_rfl) ?_
  refine Zag (p := pt 0 0) (v := pt 0 0) rfl rfl rfl rfl ?_
  refine Zr (p := pt 0 0) (v := slv 1 0 (n + 1) (n + 1)) (b := 0) (blk := rfB (slv 1 0 (n + 1) (n + 1))) (H' := [rfB (slv 1 0 (n + 1) (n + 1)), txB (ls ++ [x]), txB [x]]) rfl rfl rfl (by kernel_rfl) (by kernel_rfl) ?_
  refine Za (Zdz ?_)
  exact Zm (v := .tuple #[]) rfl rfl rfl (by simp [Zac, rfB, txB, Zej, Zcp]) trivial
theorem Zjv (ls : List ByteArray) (n : Nat) (x : Int) (hn : ls.length = n) (hb : n ≤ 1000) (hl : -9223372036854775808 ≤ x) (hh : x ≤ 9223372036854775807) : Zao Tryd.prog G 60 [pt 0 0, Iv x] [rfB (slv 1 0 n n), txB ls] (.tuple #[]) [rfB (slv 1 0 (n + 1) (n + 1)), txB (ls ++ [(Zp x).1])] := by
  refine Zbv (fn := Tryd.f60) (nt := 19) rfl rfl rfl rfl ?_
  refine Zat 1 (H' := [rfB (slv 1 0 n n), txB ls, hole]) rfl ?_
  refine Zg (Zi (Zd rfl rfl (Iv x) rfl ?_))
  refine Zs (Zq8 (G := G) x (by omega) (by omega)) (vals := [Iv x]) (res' := .tuple #[.string ((Zp x).1), Iv ((Zp x).2)]) rfl rfl rfl rfl rfl (by kernel_rfl) ?_
  refine Zd rfl rfl (.tuple #[.string ((Zp x).1), Iv ((Zp x).2)]) rfl (Zt (vs := #[.string ((Zp x).1), Iv ((Zp x).2)]) (v := .string ((Zp x).1)) rfl rfl rfl rfl (Zt (vs := #[.string ((Zp x).1), Iv ((Zp x).2)]) (v := Iv ((Zp x).2)) rfl rfl rfl rfl (Zb rfl rfl (.string ((Zp x).1)) rfl (Zb rfl rfl (Iv ((Zp x).2)) rfl (Za (Zc (Zi (Zd rfl rfl (pt 0 0) rfl (Zd rfl rfl (pt 0 0) rfl ?_)))))))))
  refine Zag (p := pt 0 0) (v := pt 0 0) rfl rfl rfl rfl ?_
  refine Zo (p := pt 0 0) (v := slv 1 0 n n) rfl rfl rfl rfl ?_
  refine Zd rfl rfl (.string ((Zp x).1)) rfl ?_
  refine Zd5 (vs := [(0, .string ((Zp x).1))]) (v := slv 2 0 1 1) (blk := txB [(Zp x).1]) (nid := 2) (H' := [rfB (slv 1 0 n n), txB ls, txB [(Zp x).1]]) rfl rfl rfl (by kernel_rfl) (by kernel_rfl) ?_
  have hl2 : (ls ++ [(Zp x).1]).length = n + 1 := by have := hn; have := (rfl : _ = 1); first | (rw [List.length_append]; omega) | (simp; omega) | simp
  refine Zbz (p := slv 1 0 n n) (q := slv 2 0 1 1) (v := slv 1 0 (n + 1) (n + 1)) (b := 1) (blk := txB (ls ++ [(Zp x).1])) (H' := [rfB (dead), txB (ls ++ [(Zp x).1]), txB [(Zp x).1]]) rfl rfl rfl (.inl ⟨_, rfl⟩) rfl rfl (Zhf (by_ := 16) (k := 1) (n' := n + 1) (ms := [(Zp x).1]) rfl rfl (by kernel_rfl) rfl (by have := hn; omega) (by omega) (by decide) (by omega)) rfl (by kernel_rfl) ?_
  refine Zag (p := pt 0 0) (v := pt 0 0) rfl rfl rfl rfl ?_
  refine Zr (p := pt 0 0) (v := slv 1 0 (n + 1) (n + 1)) (b := 0) (blk := rfB (slv 1 0 (n + 1) (n + 1))) (H' := [rfB (slv 1 0 (n + 1) (n + 1)), txB (ls ++ [(Zp x).1]), txB [(Zp x).1]]) rfl rfl rfl (by kernel_rfl) (by kernel_rfl) ?_
  refine Za (Zdz ?_)
  exact Zm (v := .tuple #[]) rfl rfl rfl (by simp [Zac, rfB, txB, Zej, Zcp]) trivial
theorem Zu3 (ls : List ByteArray) (n : Nat) (hn : ls.length = n) (hb : n ≤ 1000) : Zao Tryd.prog G 61 [pt 0 0] [rfB (slv 1 0 n n), txB ls] (slv 2 0 (Zaj ls).length (Zaj ls).length) [rfB (slv 1 0 n n), txB ls, Zy (Zaj ls)] := by
  refine Zbv (fn := Tryd.f61) (nt := 31) rfl rfl rfl rfl ?_
  refine Zat 1 (H' := [rfB (slv 1 0 n n), txB ls, hole]) rfl ?_
  refine Zg (Zi (Zb rfl rfl (.slice none 0 0) rfl (Za (Zc (Zg (Zi (Zb rfl rfl (.slice none 0 0) rfl (Za (Zc (Zg (Zg ?_)))))))))))
  refine Zcw (Zcq.nilTmp (i := 3) (b := 2) true 2 rfl (by decide) rfl) ?_
  refine Zi (Zd rfl rfl (pt 0 0) rfl ?_)
  refine Zag (p := pt 0 0) (v := pt 0 0) rfl rfl rfl rfl ?_
  refine Zo (p := pt 0 0) (v := slv 1 0 n n) rfl rfl rfl rfl ?_
  refine Zb7 (p := slv 1 0 n n) (v := Iv (n : Nat)) rfl rfl rfl rfl ?_
  refine Zd rfl rfl (Iv 0) rfl (Za (Zc (Zap ?_)))
  refine Zb8 (fun x : Nat × (List Field) => match x with | (i, acc) => [pt 0 0, dead, .slice none 0 0, slv 2 0 i i, dead, dead, dead, dead, pt 0 0, pt 0 0, slv 1 0 n n, Iv (n : Nat), Iv (i : Nat)]) (fun x : Nat × (List Field) => match x with | (i, acc) => [rfB (slv 1 0 n n), txB ls, rwB cFd acc]) (fun x : Nat × (List Field) => match x with | (i, acc) => acc ++ Zd0 i (ls.drop i) = Zd0 0 ls ∧ i ≤ n ∧ acc.length = i) (fun x : Nat × (List Field) => match x with | (i, acc) => n - i) (0, []) ⟨rfl, by omega, rfl⟩ ?_ ?_
  · refine Zaq (n := 3) rfl ?_ (by kernel_rfl) (by kernel_rfl)
    repeat (first | exact trivial | refine ⟨.inl rfl, ?_⟩ | refine ⟨.inr ⟨rfl, rfl⟩, ?_⟩ | refine ⟨.inr ⟨congrArg (Value.int .i64) (by first | omega | (dsimp only; omega)), rfl⟩, ?_⟩)
  rintro ⟨i, acc⟩ ⟨hR, hi, ha⟩
  dsimp only at *
  refine Zat 2 (H' := [rfB (slv 1 0 n n), txB ls, rwB cFd acc, hole, hole]) rfl ?_
  refine Zg (Zi ?_)
  by_cases h1 : (i : Nat) < (n : Nat)
  refine Zn (vx := Iv (i : Nat)) (vy := Iv (n : Nat)) rfl rfl (.bool true) rfl rfl (Zdt (by omega)) ?_
  refine Za (Zc (Zg (Z0 rfl (Zai (Zc (Zg (Zap (Zg (Zi (Zd rfl rfl (Iv (i : Nat)) rfl ?_))))))))))
  refine Zbk (b := 1) (o := 0) (j := i) (m := n) (c := n) (sz := 1) (i := (i : Nat)) (k := .i64) rfl rfl rfl rfl rfl (by omega) (by omega) (by omega) ?_
  refine Zo (p := pt 1 i) (v := .string (ls.getD i ⟨#[]⟩)) rfl rfl rfl (Zdv rfl rfl rfl (by have := hn; omega)) ?_
  refine Zb rfl rfl (Iv (i : Nat)) rfl (Zb rfl rfl (.string (ls.getD i ⟨#[]⟩)) rfl (Za (Zc (Zi (Zd rfl rfl (slv 2 0 i i) rfl (Zd rfl rfl (Iv (i : Nat)) rfl ?_))))))
  refine Zn (vx := Iv (i : Nat)) (vy := Iv 1) rfl rfl (Iv ((i : Nat) + 1)) rfl rfl (Za7 (by omega) (by omega) (by omega)) ?_
  refine Zd rfl rfl (.string (ls.getD i ⟨#[]⟩)) rfl ?_
  refine Zaw (vs := [(0, Iv ((i : Nat) + 1)), (1, .string (ls.getD i ⟨#[]⟩))]) (v := fdV (⟨(i : Nat) + 1, (ls.getD i ⟨#[]⟩)⟩ : Field)) rfl rfl rfl (by kernel_rfl) ?_
  refine Zd5 (vs := [(0, fdV (⟨(i : Nat) + 1, (ls.getD i ⟨#[]⟩)⟩ : Field))]) (v := slv 3 0 1 1) (blk := rwB cFd [(⟨(i : Nat) + 1, (ls.getD i ⟨#[]⟩)⟩ : Field)]) (nid := 3) (H' := [rfB (slv 1 0 n n), txB ls, rwB cFd acc, rwB cFd [(⟨(i : Nat) + 1, (ls.getD i ⟨#[]⟩)⟩ : Field)], hole]) rfl rfl rfl (by kernel_rfl) (by kernel_rfl) ?_
  have hl2 : (acc ++ [(⟨(i : Nat) + 1, (ls.getD i ⟨#[]⟩)⟩ : Field)]).length = i + 1 := by have := ha; have := (rfl : _ = 1); first | (rw [List.length_append]; omega) | (simp; omega) | simp
  refine Zbz (p := slv 2 0 i i) (q := slv 3 0 1 1) (v := slv 2 0 (i + 1) (i + 1)) (b := 2) (blk := rwB cFd (acc ++ [(⟨(i : Nat) + 1, (ls.getD i ⟨#[]⟩)⟩ : Field)])) (H' := [rfB (slv 1 0 n n), txB ls, rwB cFd (acc ++ [(⟨(i : Nat) + 1, (ls.getD i ⟨#[]⟩)⟩ : Field)]), rwB cFd [(⟨(i : Nat) + 1, (ls.getD i ⟨#[]⟩)⟩ : Field)], hole]) rfl rfl rfl (.inl ⟨_, rfl⟩) rfl rfl (Zhh cFd (by_ := 24) (k := 1) (n' := i + 1) (ms := [(⟨(i : Nat) + 1, (ls.getD i ⟨#[]⟩)⟩ : Field)]) (fun _ => rfl) rfl rfl (by kernel_rfl) rfl rfl (by have := ha; omega) (by omega) (by decide) (by omega)) rfl (by kernel_rfl) ?_
  refine Zb rfl rfl (slv 2 0 (i + 1) (i + 1)) rfl (Za (Z1 (Zc (Zi ?_))))
  refine Zn (vx := Iv (i : Nat)) (vy := Iv 1) rfl rfl (Iv ((i : Nat) + 1)) rfl rfl (Za7 (by omega) (by omega) (by omega)) ?_
  refine Zd rfl rfl (Iv ((i : Nat) + 1)) rfl (Za ?_)
  refine Zau ⟨((i + 1), (acc ++ [(⟨(i : Nat) + 1, (ls.getD i ⟨#[]⟩)⟩ : Field)])), ⟨Zyn hR (by omega), by omega, by rw [List.length_append, ha]; rfl⟩, by show n - (i + 1) < n - i; omega, ?_⟩
  refine Zaq (n := 3) rfl ?_ (by kernel_rfl) (by kernel_rfl)
  repeat (first | exact trivial | refine ⟨.inl rfl, ?_⟩ | refine ⟨.inr ⟨rfl, rfl⟩, ?_⟩ | refine ⟨.inr ⟨congrArg (Value.int .i64) (by first | omega | (dsimp only; omega)), rfl⟩, ?_⟩)
  refine Zn (vx := Iv (i : Nat)) (vy := Iv (n : Nat)) rfl rfl (.bool false) rfl rfl (Zdh (by omega)) ?_
  refine Za (Zc (Zg (Zx rfl (Zce (Zbj (Zbo (Zbp rfl (Zc (Zg (Zi (Zd rfl rfl (slv 2 0 i i) rfl ?_)))))))))))
  refine Zad (e := [some (2, 0)]) (nid := 3) (Z1b (G := G) acc i i ha (by omega) (by omega)) (vals := [slv 2 0 i i]) (v := .tuple #[slv 3 0 ((Z6 acc 0 []).1.length) ((Z6 acc 0 []).1.length), Iv ((Z6 acc 0 []).2)]) (H' := [rfB (slv 1 0 n n), txB ls, rwB cFd acc, Zy ((Z6 acc 0 []).1), hole]) rfl rfl rfl rfl rfl rfl rfl ⟨⟨⟨rfl, rfl, rfl, by first | omega | exact Nat.le_refl _, by first | omega | exact Nat.le_refl _⟩, trivial⟩, ⟨(Zia rfl), trivial⟩, rfl, rfl, rfl⟩ (by kernel_rfl) (by kernel_rfl) ?_
  refine Zd rfl rfl (.tuple #[slv 3 0 ((Z6 acc 0 []).1.length) ((Z6 acc 0 []).1.length), Iv ((Z6 acc 0 []).2)]) rfl (Zt (vs := #[slv 3 0 ((Z6 acc 0 []).1.length) ((Z6 acc 0 []).1.length), Iv ((Z6 acc 0 []).2)]) (v := slv 3 0 ((Z6 acc 0 []).1.length) ((Z6 acc 0 []).1.length)) rfl rfl rfl rfl (Zt (vs := #[slv 3 0 ((Z6 acc 0 []).1.length) ((Z6 acc 0 []).1.length), Iv ((Z6 acc 0 []).2)]) (v := Iv ((Z6 acc 0 []).2)) rfl rfl rfl rfl (Zb rfl rfl (slv 3 0 ((Z6 acc 0 []).1.length) ((Z6 acc 0 []).1.length)) rfl (Zb rfl rfl (Iv ((Z6 acc 0 []).2)) rfl (Za (Zc (Zg (Zi (Zd rfl rfl (slv 3 0 ((Z6 acc 0 []).1.length) ((Z6 acc 0 []).1.length)) rfl (Zb rfl rfl (slv 3 0 ((Z6 acc 0 []).1.length) ((Z6 acc 0 []).1.length)) rfl (Za (Zc (Zv (Zu ?_))))))))))))))
  have hR' : acc = Zd0 0 ls := by rw [← hR, List.drop_of_length_le (by omega)]; simp [Zd0]
  rw [show Zaj ls = (Z6 acc 0 []).1 from by rw [hR']; rfl]
  exact Za5 [0, 1, 3] (v := slv 3 0 ((Z6 acc 0 []).1.length) ((Z6 acc 0 []).1.length)) rfl (by kernel_rfl) rfl rfl (by decide) (by simp [Zac, rfB, txB, Zy, Zej, Zcp]) ⟨rfl, rfl, rfl, by first | omega | exact Nat.le_refl _ | exact Nat.zero_le _ | (dsimp only; omega), by first | omega | exact Nat.le_refl _ | exact Nat.zero_le _ | (dsimp only; omega)⟩
theorem Z4w (h : Head) : Zao Tryd.prog G 57 [Zbf h] [] (.tuple #[slv 0 0 (Zcl h).1.length (Zcl h).1.length, Iv (Zcl h).2]) [Zy (Zcl h).1] := by
  refine Zbv (fn := Tryd.f57) (nt := 34) rfl rfl rfl rfl ?_
  refine Zat 4 (H' := [hole, hole, hole, hole]) rfl ?_
  refine Zg (Zi ?_)
  refine Zel (v := Zbf h) (b := bxB 36 (Zan h)) (nid := 0) (H' := [bxB 36 (Zan h), hole, hole, hole]) rfl rfl rfl (by kernel_rfl) (by kernel_rfl) ?_
  refine Zb rfl rfl (.slice none 0 0) rfl (Zb rfl rfl (Iv 0) rfl (Za (Zc (Zg (Zg (Zi ?_))))))
  refine Zo (p := pt 0 0) (v := Zbf h) rfl rfl rfl (by kernel_rfl) ?_
  refine Zs (Zoj (G := G) h) (vals := [Zbf h]) (res' := Iv (Zbm h)) rfl rfl rfl rfl rfl rfl ?_
  refine Zb rfl rfl (Iv (Zbm h)) rfl (Za (Zc (Zg (Zi (Zd rfl rfl (Iv (Zbm h)) rfl ?_)))))
  by_cases h1 : (Zbm h) ≠ 0
  refine Zn (vx := Iv (Zbm h)) (vy := Iv 0) rfl rfl (.bool true) rfl rfl (Zeg (by omega)) ?_
  refine Za (Zc (Z0 rfl (Zg (Zi (Zd rfl rfl (Iv (Zbm h)) rfl (Zb rfl rfl (.slice none 0 0) rfl (Zb rfl rfl (Iv (Zbm h)) rfl (Za (Zc ?_)))))))))
  refine Zcw (Zcq.nilTmp (i := 2) (b := 1) true 1 rfl (by decide) rfl) ?_
  refine Zv (Z5 (Zu ?_))
  rw [show Zcl h = ([], (Zbm h)) from if_neg (by omega)]
  exact Za5 [1] (v := .tuple #[slv 1 0 0 0, Iv (Zbm h)]) rfl (by kernel_rfl) rfl rfl (by decide) (by simp [Zac, Zy]) ⟨⟨rfl, rfl, rfl, by first | omega | exact Nat.le_refl _ | exact Nat.zero_le _ | (dsimp only; omega), by first | omega | exact Nat.le_refl _ | exact Nat.zero_le _ | (dsimp only; omega)⟩, rfl, trivial⟩
  refine Zn (vx := Iv (Zbm h)) (vy := Iv 0) rfl rfl (.bool false) rfl rfl (Zds (by omega)) ?_
  refine Za (Zc (Zx rfl (Zai (Zc (Zg (Zi ?_))))))
  refine Zae (b := rfB (.slice none 0 0)) (nid := 1) (H' := [bxB 36 (Zan h), rfB (.slice none 0 0), hole, hole]) rfl rfl (by kernel_rfl) (by kernel_rfl) ?_
  refine Za (Zc (Zg ?_))
  have hc := Zyb (h := h) (by omega)
  refine Zcw (Zcq.nilCell (k := 1) (j := 0) (b := 2) true 1 rfl (by decide) rfl (by show 0 < 1; decide) rfl rfl) ?_
  refine Zi ?_
  refine Zqz (vs := [pt 1 0]) (ws := []) rfl rfl rfl rfl rfl ?_
  refine Zb rfl rfl (.func (.func 60) #[pt 1 0] #[]) rfl (Za (Zc (Zg (Zi (Zd rfl rfl (.func (.func 60) #[pt 1 0] #[]) rfl ?_)))))
  refine Zj (b := 0) (o := 0) (n := 0) (o' := 0) rfl rfl rfl rfl rfl ?_
  refine Zo (p := pt 0 0) (v := Iv h.region) rfl rfl rfl (by kernel_rfl) ?_
  refine Zdg (e := [some (1, 0), some (2, 0)]) (nid := 0) (Zjv (G := G) [] 0 h.region rfl (by omega) (by omega) (by omega)) (vals := [pt 1 0, Iv h.region]) (v := .tuple #[]) (H' := [bxB 36 (Zan h), rfB (slv 2 0 1 1), txB ([] ++ [(Zp h.region).1]), hole]) rfl rfl rfl rfl rfl rfl ⟨⟨⟨rfl, rfl⟩, rfl, trivial⟩, ⟨(Zay rfl rfl rfl rfl), (Zay rfl rfl rfl rfl), trivial⟩, rfl, rfl, rfl, Nat.le_refl _⟩ (by kernel_rfl) rfl (by kernel_rfl) ?_
  refine Za (Zc (Zg (Zi (Zd rfl rfl (.func (.func 60) #[pt 1 0] #[]) rfl ?_))))
  refine Zj (b := 0) (o := 0) (n := 1) (o' := 1) rfl rfl rfl rfl rfl ?_
  refine Zo (p := pt 0 1) (v := Iv h.epoch) rfl rfl rfl (by kernel_rfl) ?_
  refine Zdg (e := [some (1, 0), some (2, 0)]) (nid := 0) (Zjv (G := G) ([] ++ [(Zp h.region).1]) 1 h.epoch rfl (by omega) (by omega) (by omega)) (vals := [pt 1 0, Iv h.epoch]) (v := .tuple #[]) (H' := [bxB 36 (Zan h), rfB (slv 2 0 2 2), txB (([] ++ [(Zp h.region).1]) ++ [(Zp h.epoch).1]), hole]) rfl rfl rfl rfl rfl rfl ⟨⟨⟨rfl, rfl⟩, rfl, trivial⟩, ⟨(Zay rfl rfl rfl rfl), (Zay rfl rfl rfl rfl), trivial⟩, rfl, rfl, rfl, Nat.le_refl _⟩ (by kernel_rfl) rfl (by kernel_rfl) ?_
  refine Za (Zc (Zg (Zi (Zd rfl rfl (.func (.func 60) #[pt 1 0] #[]) rfl ?_))))
  refine Zj (b := 0) (o := 0) (n := 2) (o' := 2) rfl rfl rfl rfl rfl ?_
  refine Zo (p := pt 0 2) (v := Iv h.size) rfl rfl rfl (by kernel_rfl) ?_
  refine Zdg (e := [some (1, 0), some (2, 0)]) (nid := 0) (Zjv (G := G) (([] ++ [(Zp h.region).1]) ++ [(Zp h.epoch).1]) 2 h.size rfl (by omega) (by omega) (by omega)) (vals := [pt 1 0, Iv h.size]) (v := .tuple #[]) (H' := [bxB 36 (Zan h), rfB (slv 2 0 3 3), txB ((([] ++ [(Zp h.region).1]) ++ [(Zp h.epoch).1]) ++ [(Zp h.size).1]), hole]) rfl rfl rfl rfl rfl rfl ⟨⟨⟨rfl, rfl⟩, rfl, trivial⟩, ⟨(Zay rfl rfl rfl rfl), (Zay rfl rfl rfl rfl), trivial⟩, rfl, rfl, rfl, Nat.le_refl _⟩ (by kernel_rfl) rfl (by kernel_rfl) ?_
  refine Za (Zc (Zg (Zi ?_)))
  refine Zj (b := 0) (o := 0) (n := 3) (o' := 3) rfl rfl rfl rfl rfl ?_
  refine Zec (p := pt 0 3) (vl := none) (vh := none) (v := slv 0 3 32 32) rfl rfl rfl rfl rfl rfl ?_
  refine Zc6 (p := slv 0 3 32 32) (v := .string (Zl (dgL h.root))) rfl rfl rfl (Zi2 (l := (dgL h.root)) rfl rfl rfl rfl (of_decide_eq_true (by kernel_rfl)) (by kernel_rfl)) ?_
  refine Zdg (e := [some (1, 0), some (2, 0)]) (nid := 0) (Zor (G := G) ((([] ++ [(Zp h.region).1]) ++ [(Zp h.epoch).1]) ++ [(Zp h.size).1]) 3 (Zl (dgL h.root)) rfl (by omega)) (vals := [pt 1 0, .string (Zl (dgL h.root))]) (v := .tuple #[]) (H' := [bxB 36 (Zan h), rfB (slv 2 0 4 4), txB (((([] ++ [(Zp h.region).1]) ++ [(Zp h.epoch).1]) ++ [(Zp h.size).1]) ++ [(Zl (dgL h.root))]), hole]) rfl rfl rfl rfl rfl rfl ⟨⟨⟨rfl, rfl⟩, rfl, trivial⟩, ⟨(Zay rfl rfl rfl rfl), (Zay rfl rfl rfl rfl), trivial⟩, rfl, rfl, rfl, Nat.le_refl _⟩ (by kernel_rfl) rfl (by kernel_rfl) ?_
  refine Za (Zc (Zg (Zi (Zd rfl rfl (.func (.func 60) #[pt 1 0] #[]) rfl ?_))))
  refine Zj (b := 0) (o := 0) (n := 35) (o' := 35) rfl rfl rfl rfl rfl ?_
  refine Zo (p := pt 0 35) (v := Iv h.tick) rfl rfl rfl (by kernel_rfl) ?_
  refine Zdg (e := [some (1, 0), some (2, 0)]) (nid := 0) (Zjv (G := G) (((([] ++ [(Zp h.region).1]) ++ [(Zp h.epoch).1]) ++ [(Zp h.size).1]) ++ [(Zl (dgL h.root))]) 4 h.tick rfl (by omega) (by omega) (by omega)) (vals := [pt 1 0, Iv h.tick]) (v := .tuple #[]) (H' := [bxB 36 (Zan h), rfB (slv 2 0 5 5), txB ((((([] ++ [(Zp h.region).1]) ++ [(Zp h.epoch).1]) ++ [(Zp h.size).1]) ++ [(Zl (dgL h.root))]) ++ [(Zp h.tick).1]), hole]) rfl rfl rfl rfl rfl rfl ⟨⟨⟨rfl, rfl⟩, rfl, trivial⟩, ⟨(Zay rfl rfl rfl rfl), (Zay rfl rfl rfl rfl), trivial⟩, rfl, rfl, rfl, Nat.le_refl _⟩ (by kernel_rfl) rfl (by kernel_rfl) ?_
  refine Za (Zc (Zg (Zi ?_)))
  refine Zdg (e := [some (1, 0), some (2, 0)]) (nid := 3) (Zu3 (G := G) ((((([] ++ [(Zp h.region).1]) ++ [(Zp h.epoch).1]) ++ [(Zp h.size).1]) ++ [(Zl (dgL h.root))]) ++ [(Zp h.tick).1]) 5 rfl (by omega)) (vals := [pt 1 0]) (v := slv 3 0 ((Zaj ((((([] ++ [(Zp h.region).1]) ++ [(Zp h.epoch).1]) ++ [(Zp h.size).1]) ++ [(Zl (dgL h.root))]) ++ [(Zp h.tick).1])).length) ((Zaj ((((([] ++ [(Zp h.region).1]) ++ [(Zp h.epoch).1]) ++ [(Zp h.size).1]) ++ [(Zl (dgL h.root))]) ++ [(Zp h.tick).1])).length)) (H' := [bxB 36 (Zan h), rfB (slv 2 0 5 5), txB ((((([] ++ [(Zp h.region).1]) ++ [(Zp h.epoch).1]) ++ [(Zp h.size).1]) ++ [(Zl (dgL h.root))]) ++ [(Zp h.tick).1]), Zy (Zaj ((((([] ++ [(Zp h.region).1]) ++ [(Zp h.epoch).1]) ++ [(Zp h.size).1]) ++ [(Zl (dgL h.root))]) ++ [(Zp h.tick).1]))]) rfl rfl rfl rfl rfl rfl ⟨⟨⟨rfl, rfl⟩, trivial⟩, ⟨(Zay rfl rfl rfl rfl), (Zay rfl rfl rfl rfl), trivial⟩, rfl, rfl, rfl, Nat.le_refl _⟩ rfl rfl (by kernel_rfl) ?_
  refine Zb rfl rfl (slv 3 0 ((Zaj ((((([] ++ [(Zp h.region).1]) ++ [(Zp h.epoch).1]) ++ [(Zp h.size).1]) ++ [(Zl (dgL h.root))]) ++ [(Zp h.tick).1])).length) ((Zaj ((((([] ++ [(Zp h.region).1]) ++ [(Zp h.epoch).1]) ++ [(Zp h.size).1]) ++ [(Zl (dgL h.root))]) ++ [(Zp h.tick).1])).length)) rfl ?_
  refine Zb rfl rfl (Iv 0) rfl (Za (Zc (Zv (Zu ?_))))
  rw [show Zcl h = ((Zaj ((((([] ++ [(Zp h.region).1]) ++ [(Zp h.epoch).1]) ++ [(Zp h.size).1]) ++ [(Zl (dgL h.root))]) ++ [(Zp h.tick).1])), 0) from if_pos (by omega)]
  exact Za5 [3] (v := .tuple #[slv 3 0 ((Zaj ((((([] ++ [(Zp h.region).1]) ++ [(Zp h.epoch).1]) ++ [(Zp h.size).1]) ++ [(Zl (dgL h.root))]) ++ [(Zp h.tick).1])).length) ((Zaj ((((([] ++ [(Zp h.region).1]) ++ [(Zp h.epoch).1]) ++ [(Zp h.size).1]) ++ [(Zl (dgL h.root))]) ++ [(Zp h.tick).1])).length), Iv 0]) rfl (by kernel_rfl) rfl rfl (by decide) (by simp [Zac, Zy]) ⟨⟨rfl, rfl, rfl, by first | omega | exact Nat.le_refl _ | exact Nat.zero_le _ | (dsimp only; omega), by first | omega | exact Nat.le_refl _ | exact Nat.zero_le _ | (dsimp only; omega)⟩, rfl, trivial⟩
end Go.Flat
namespace Go.Flat
open Go.Proofs
variable {G : Glob}
def Z6q (key : D) : D := fun i => if i < 32 then key i else 0
def Z5p (c : D) (x : BitVec 8) (j : Nat) : D := fun i => if i < j then c i ^^^ x else c i
def Z1p (key : D) (x : BitVec 8) : ByteArray := Zl (Zjq 64 (Z5p (Z6q key) x 64))
def Zz3 (kk : Nat → BitVec 32) (key : D) (s : ByteArray) : D := Zjl kk (Zek [Z1p key 92#8, Zl (dgL (Zjl kk (Zek [Z1p key 54#8, s])))])
def Z6o (a b : D) : Nat → BitVec 8
  | 0 => 0
  | j + 1 => Z6o a b j ||| (a j ^^^ b j)
def Z07 (kk : Nat → BitVec 32) (master : D) (region node : Int) : D × Int := if (1 ≤ region ∧ region ≤ 5) ∧ (1 ≤ node ∧ node ≤ 3) then (Zz3 kk master (Zl [75#8, BitVec.ofInt 8 region, BitVec.ofInt 8 node]), 0) else (dz, 50)
def Z4z (kk : Nat → BitVec 32) (master : D) (region node : Int) (s : ByteArray) (t : D) : Int :=
  if ((Z07 kk master region node).2) ≠ 0 then ((Z07 kk master region node).2) else
  if Zdd 32 (Zz3 kk ((Z07 kk master region node).1) s) t = true then 0 else
  72
end Go.Flat
namespace Go.Flat
open Go.Proofs
variable {G : Glob}
def Z1w : ByteArray := ⟨#[104, 101, 97, 100, 32]⟩
theorem Z08 (h : Head) : (Zcl h).2 = Zbm h := by
 unfold Zcl
 split
 ·rename_i h0; exact h0.symm
 ·rfl
def Znm : List Field → Nat
  | [] => 0
  | f :: l => f.data.size + 4 + Znm l
theorem Zh2 : ∀ (fs : List Field) (last : Int) (acc : Bs), (Z6 fs last acc).1.length ≤ acc.length + Znm fs
 | [], _, acc => by simp [Z6, Znm]
 | f :: fs, last, acc => by
  rw [Z6]
  split
  ·have := Zh2 fs f.tag (acc ++ Zc0 f)
   rw [List.length_append, Zg3] at this
   simp only [Znm]; omega
  ·simp
theorem Zs4 : ∀ (f n a : Nat) (b : D), (Zjr f n a b).length ≤ 8
 | 0, n, a, b => by rw [Zjr, List.length_drop, Zkf]; omega
 | f + 1, n, a, b => by
  rw [Zjr]
  split
  ·rw [List.length_drop, Zkf]; omega
  ·exact Zs4 f _ _ _
theorem Za6 (n : Int) : (Zp n).1.size ≤ 8 := by
 unfold Zp
 split
 ·rw [Zbc]; exact Zs4 _ _ _ _
 ·show 0 ≤ 8; omega
theorem Z0x (h : Head) : (Zcl h).1.length ≤ 100 := by
 unfold Zcl
 split
 ·have := Zh2 (Zd0 0 (Zcg h)) 0 []
  simp only [Zcg, Zd0, Znm, Zbc, Ze2, List.length_nil] at this
  have h1 := Za6 h.region
  have h2 := Za6 h.epoch
  have h3 := Za6 h.size
  have h4 := Za6 h.tick
  show (Z6 (Zd0 0 (Zcg h)) 0 []).1.length ≤ 100
  simp only [Zcg, Zd0]
  omega
 ·simp
def Za1 (s : Signed) : Bs × Int := if Zbm s.head = 0 ∧ 1 ≤ s.node ∧ s.node ≤ 3 then (Zaj [Zl (Zcl s.head).1, (Zp s.node).1, Zl (dgL s.tag)], 0) else ([], 70)
def Z65 (kk : Nat → BitVec 32) (master : D) (h : Head) (node : Int) : Signed × Int :=
  if ((Zcl h).2) ≠ 0 then ((⟨(⟨0, 0, 0, dz, 0⟩ : Head), 0, dz⟩ : Signed), ((Zcl h).2)) else
  if ((Z07 kk master h.region node).2) ≠ 0 then ((⟨(⟨0, 0, 0, dz, 0⟩ : Head), 0, dz⟩ : Signed), 70) else
  ((⟨h, node, (Zz3 kk ((Z07 kk master h.region node).1) (Z1w ++ (Zl ((Zcl h).1))))⟩ : Signed), 0)
def Z56 (kk : Nat → BitVec 32) (master : D) (s : Signed) : Int :=
  if ((Zcl s.head).2) ≠ 0 then 70 else
  if 1 ≤ s.node then (if s.node ≤ 3 then (Z4z kk master s.head.region s.node (Z1w ++ (Zl ((Zcl s.head).1))) s.tag) else
  70) else
  70
theorem Zr9 (s : Signed) : Zao Tryd.prog G 29 [Zaa s] [] (.tuple #[slv 0 0 (Za1 s).1.length (Za1 s).1.length, Iv (Za1 s).2]) [Zy (Za1 s).1] := by
  refine Zbv (fn := Tryd.f29) (nt := 32) rfl rfl rfl rfl ?_
  refine Zat 5 (H' := [hole, hole, hole, hole, hole]) rfl ?_
  refine Zg (Zi ?_)
  refine Zel (v := Zaa s) (b := bxB 69 (Z3 s)) (nid := 0) (H' := [bxB 69 (Z3 s), hole, hole, hole, hole]) rfl rfl rfl (by kernel_rfl) (by kernel_rfl) ?_
  refine Zb rfl rfl (.slice none 0 0) rfl (Zb rfl rfl (Iv 0) rfl (Za (Zc (Zg (Zi ?_)))))
  refine Zj (b := 0) (o := 0) (n := 0) (o' := 0) rfl rfl rfl rfl rfl ?_
  refine Zo (p := pt 0 0) (v := Zbf s.head) rfl rfl rfl (by kernel_rfl) ?_
  have hpe6 := Z08 s.head
  have hpl6 := Z0x s.head
  refine Zad (e := []) (nid := 1) (Z4w (G := G) s.head) (vals := [Zbf s.head]) (v := .tuple #[slv 1 0 ((Zcl s.head).1.length) ((Zcl s.head).1.length), Iv ((Zcl s.head).2)]) (H' := [bxB 69 (Z3 s), Zy ((Zcl s.head).1), hole, hole, hole]) rfl rfl rfl rfl rfl rfl rfl ⟨⟨rfl, trivial⟩, trivial, rfl, rfl, rfl⟩ (by kernel_rfl) (by kernel_rfl) ?_
  refine Zd rfl rfl (.tuple #[slv 1 0 ((Zcl s.head).1.length) ((Zcl s.head).1.length), Iv ((Zcl s.head).2)]) rfl (Zt (vs := #[slv 1 0 ((Zcl s.head).1.length) ((Zcl s.head).1.length), Iv ((Zcl s.head).2)]) (v := slv 1 0 ((Zcl s.head).1.length) ((Zcl s.head).1.length)) rfl rfl rfl rfl (Zt (vs := #[slv 1 0 ((Zcl s.head).1.length) ((Zcl s.head).1.length), Iv ((Zcl s.head).2)]) (v := Iv ((Zcl s.head).2)) rfl rfl rfl rfl (Zb rfl rfl (slv 1 0 ((Zcl s.head).1.length) ((Zcl s.head).1.length)) rfl (Zb rfl rfl (Iv ((Zcl s.head).2)) rfl (Za (Zc (Zg (Zg (Zi (Zd rfl rfl (Iv ((Zcl s.head).2)) rfl ?_))))))))))
  by_cases h1 : ((Zcl s.head).2) ≠ 0
  refine Zn (vx := Iv ((Zcl s.head).2)) (vy := Iv 0) rfl rfl (.bool true) rfl rfl (Zeg (by omega)) ?_
  refine Zd rfl rfl (.bool true) rfl (Zf rfl rfl (Zf rfl rfl (Zf rfl rfl (Zf rfl rfl (Zk rfl rfl (.bool true) rfl (Za (Zc (Z0 rfl (Zg (Zi (Zb rfl rfl (.slice none 0 0) rfl (Zb rfl rfl (Iv 70) rfl (Za (Zc ?_))))))))))))))
  refine Zcw (Zcq.nilTmp (i := 2) (b := 2) true 1 rfl (by decide) rfl) ?_
  refine Zv (Z5 (Zu ?_))
  rw [show Za1 s = ([], 70) from if_neg (by omega)]
  exact Za5 [2] (v := .tuple #[slv 2 0 0 0, Iv 70]) rfl (by kernel_rfl) rfl rfl (by decide) (by simp [Zac, Zy]) ⟨⟨rfl, rfl, rfl, by first | omega | exact Nat.le_refl _ | exact Nat.zero_le _ | (dsimp only; omega), by first | omega | exact Nat.le_refl _ | exact Nat.zero_le _ | (dsimp only; omega)⟩, rfl, trivial⟩
  refine Zn (vx := Iv ((Zcl s.head).2)) (vy := Iv 0) rfl rfl (.bool false) rfl rfl (Zds (by omega)) ?_
  refine Zd rfl rfl (.bool false) rfl ?_
  refine Zj (b := 0) (o := 0) (n := 36) (o' := 36) rfl rfl rfl rfl rfl ?_
  refine Zo (p := pt 0 36) (v := Iv s.node) rfl rfl rfl (by kernel_rfl) ?_
  by_cases h2 : 1 ≤ s.node
  by_cases h3 : s.node ≤ 3
  refine Zs ((Zcs (G := G) s.node 1 3).res (congrArg Value.bool (Zbg (by omega) (by omega)))) (vals := [Iv s.node, Iv 1, Iv 3]) (res' := .bool true) rfl rfl rfl rfl rfl rfl ?_
  refine Zef (vx := .bool true) rfl rfl (.bool false) rfl Zb1 ?_
  refine Zk rfl rfl (.bool false) rfl (Za (Zc (Zx rfl (Zai (Zc (Zg (Zi ?_)))))))
  refine Zae (b := rfB (.slice none 0 0)) (nid := 2) (H' := [bxB 69 (Z3 s), Zy ((Zcl s.head).1), rfB (.slice none 0 0), hole, hole]) rfl rfl (by kernel_rfl) (by kernel_rfl) ?_
  refine Za (Zc (Zg ?_))
  refine Zcw (Zcq.nilCell (k := 2) (j := 0) (b := 3) true 1 rfl (by decide) rfl (by show 0 < 1; decide) rfl rfl) ?_
  refine Zi (Zd rfl rfl (slv 1 0 ((Zcl s.head).1.length) ((Zcl s.head).1.length)) rfl ?_)
  refine Zc6 (p := slv 1 0 ((Zcl s.head).1.length) ((Zcl s.head).1.length)) (v := .string (Zl ((Zcl s.head).1))) rfl rfl rfl (Zbi rfl rfl rfl rfl rfl (by omega)) ?_
  refine Zdg (e := [some (2, 0), some (3, 0)]) (nid := 0) (Zor (G := G) [] 0 (Zl ((Zcl s.head).1)) rfl (by omega)) (vals := [pt 2 0, .string (Zl ((Zcl s.head).1))]) (v := .tuple #[]) (H' := [bxB 69 (Z3 s), Zy ((Zcl s.head).1), rfB (slv 3 0 1 1), txB ([] ++ [(Zl ((Zcl s.head).1))]), hole]) rfl rfl rfl rfl rfl rfl ⟨⟨⟨rfl, rfl⟩, rfl, trivial⟩, ⟨(Zay rfl rfl rfl rfl), (Zay rfl rfl rfl rfl), trivial⟩, rfl, rfl, rfl, Nat.le_refl _⟩ (by kernel_rfl) rfl (by kernel_rfl) ?_
  refine Za (Zc (Zg (Zi ?_)))
  refine Zj (b := 0) (o := 0) (n := 36) (o' := 36) rfl rfl rfl rfl rfl ?_
  refine Zo (p := pt 0 36) (v := Iv s.node) rfl rfl rfl (by kernel_rfl) ?_
  refine Zdg (e := [some (2, 0), some (3, 0)]) (nid := 0) (Zjv (G := G) ([] ++ [(Zl ((Zcl s.head).1))]) 1 s.node rfl (by omega) (by omega) (by omega)) (vals := [pt 2 0, Iv s.node]) (v := .tuple #[]) (H' := [bxB 69 (Z3 s), Zy ((Zcl s.head).1), rfB (slv 3 0 2 2), txB (([] ++ [(Zl ((Zcl s.head).1))]) ++ [(Zp s.node).1]), hole]) rfl rfl rfl rfl rfl rfl ⟨⟨⟨rfl, rfl⟩, rfl, trivial⟩, ⟨(Zay rfl rfl rfl rfl), (Zay rfl rfl rfl rfl), trivial⟩, rfl, rfl, rfl, Nat.le_refl _⟩ (by kernel_rfl) rfl (by kernel_rfl) ?_
  refine Za (Zc (Zg (Zi ?_)))
  refine Zj (b := 0) (o := 0) (n := 37) (o' := 37) rfl rfl rfl rfl rfl ?_
  refine Zec (p := pt 0 37) (vl := none) (vh := none) (v := slv 0 37 32 32) rfl rfl rfl rfl rfl rfl ?_
  refine Zc6 (p := slv 0 37 32 32) (v := .string (Zl (dgL s.tag))) rfl rfl rfl (Zi2 (l := (dgL s.tag)) rfl rfl rfl rfl (of_decide_eq_true (by kernel_rfl)) (by kernel_rfl)) ?_
  refine Zdg (e := [some (2, 0), some (3, 0)]) (nid := 0) (Zor (G := G) (([] ++ [(Zl ((Zcl s.head).1))]) ++ [(Zp s.node).1]) 2 (Zl (dgL s.tag)) rfl (by omega)) (vals := [pt 2 0, .string (Zl (dgL s.tag))]) (v := .tuple #[]) (H' := [bxB 69 (Z3 s), Zy ((Zcl s.head).1), rfB (slv 3 0 3 3), txB ((([] ++ [(Zl ((Zcl s.head).1))]) ++ [(Zp s.node).1]) ++ [(Zl (dgL s.tag))]), hole]) rfl rfl rfl rfl rfl rfl ⟨⟨⟨rfl, rfl⟩, rfl, trivial⟩, ⟨(Zay rfl rfl rfl rfl), (Zay rfl rfl rfl rfl), trivial⟩, rfl, rfl, rfl, Nat.le_refl _⟩ (by kernel_rfl) rfl (by kernel_rfl) ?_
  refine Za (Zc (Zg (Zi ?_)))
  refine Zdg (e := [some (2, 0), some (3, 0)]) (nid := 4) (Zu3 (G := G) ((([] ++ [(Zl ((Zcl s.head).1))]) ++ [(Zp s.node).1]) ++ [(Zl (dgL s.tag))]) 3 rfl (by omega)) (vals := [pt 2 0]) (v := slv 4 0 ((Zaj ((([] ++ [(Zl ((Zcl s.head).1))]) ++ [(Zp s.node).1]) ++ [(Zl (dgL s.tag))])).length) ((Zaj ((([] ++ [(Zl ((Zcl s.head).1))]) ++ [(Zp s.node).1]) ++ [(Zl (dgL s.tag))])).length)) (H' := [bxB 69 (Z3 s), Zy ((Zcl s.head).1), rfB (slv 3 0 3 3), txB ((([] ++ [(Zl ((Zcl s.head).1))]) ++ [(Zp s.node).1]) ++ [(Zl (dgL s.tag))]), Zy (Zaj ((([] ++ [(Zl ((Zcl s.head).1))]) ++ [(Zp s.node).1]) ++ [(Zl (dgL s.tag))]))]) rfl rfl rfl rfl rfl rfl ⟨⟨⟨rfl, rfl⟩, trivial⟩, ⟨(Zay rfl rfl rfl rfl), (Zay rfl rfl rfl rfl), trivial⟩, rfl, rfl, rfl, Nat.le_refl _⟩ rfl rfl (by kernel_rfl) ?_
  refine Zb rfl rfl (slv 4 0 ((Zaj ((([] ++ [(Zl ((Zcl s.head).1))]) ++ [(Zp s.node).1]) ++ [(Zl (dgL s.tag))])).length) ((Zaj ((([] ++ [(Zl ((Zcl s.head).1))]) ++ [(Zp s.node).1]) ++ [(Zl (dgL s.tag))])).length)) rfl ?_
  refine Zb rfl rfl (Iv 0) rfl (Za (Zc (Zv (Zu ?_))))
  rw [show Za1 s = ((Zaj ((([] ++ [(Zl ((Zcl s.head).1))]) ++ [(Zp s.node).1]) ++ [(Zl (dgL s.tag))])), 0) from if_pos (by omega)]
  exact Za5 [4] (v := .tuple #[slv 4 0 ((Zaj ((([] ++ [(Zl ((Zcl s.head).1))]) ++ [(Zp s.node).1]) ++ [(Zl (dgL s.tag))])).length) ((Zaj ((([] ++ [(Zl ((Zcl s.head).1))]) ++ [(Zp s.node).1]) ++ [(Zl (dgL s.tag))])).length), Iv 0]) rfl (by kernel_rfl) rfl rfl (by decide) (by simp [Zac, Zy]) ⟨⟨rfl, rfl, rfl, by first | omega | exact Nat.le_refl _ | exact Nat.zero_le _ | (dsimp only; omega), by first | omega | exact Nat.le_refl _ | exact Nat.zero_le _ | (dsimp only; omega)⟩, rfl, trivial⟩
  refine Zs ((Zcs (G := G) s.node 1 3).res (congrArg Value.bool (Zah (by omega)))) (vals := [Iv s.node, Iv 1, Iv 3]) (res' := .bool false) rfl rfl rfl rfl rfl rfl ?_
  refine Zef (vx := .bool false) rfl rfl (.bool true) rfl Zb1 ?_
  refine Zk rfl rfl (.bool true) rfl (Za (Zc (Z0 rfl (Zg (Zi (Zb rfl rfl (.slice none 0 0) rfl (Zb rfl rfl (Iv 70) rfl (Za (Zc ?_)))))))))
  refine Zcw (Zcq.nilTmp (i := 2) (b := 2) true 1 rfl (by decide) rfl) ?_
  refine Zv (Z5 (Zu ?_))
  rw [show Za1 s = ([], 70) from if_neg (by omega)]
  exact Za5 [2] (v := .tuple #[slv 2 0 0 0, Iv 70]) rfl (by kernel_rfl) rfl rfl (by decide) (by simp [Zac, Zy]) ⟨⟨rfl, rfl, rfl, by first | omega | exact Nat.le_refl _ | exact Nat.zero_le _ | (dsimp only; omega), by first | omega | exact Nat.le_refl _ | exact Nat.zero_le _ | (dsimp only; omega)⟩, rfl, trivial⟩
  refine Zs ((Zcs (G := G) s.node 1 3).res (congrArg Value.bool (Zah (by omega)))) (vals := [Iv s.node, Iv 1, Iv 3]) (res' := .bool false) rfl rfl rfl rfl rfl rfl ?_
  refine Zef (vx := .bool false) rfl rfl (.bool true) rfl Zb1 ?_
  refine Zk rfl rfl (.bool true) rfl (Za (Zc (Z0 rfl (Zg (Zi (Zb rfl rfl (.slice none 0 0) rfl (Zb rfl rfl (Iv 70) rfl (Za (Zc ?_)))))))))
  refine Zcw (Zcq.nilTmp (i := 2) (b := 2) true 1 rfl (by decide) rfl) ?_
  refine Zv (Z5 (Zu ?_))
  rw [show Za1 s = ([], 70) from if_neg (by omega)]
  exact Za5 [2] (v := .tuple #[slv 2 0 0 0, Iv 70]) rfl (by kernel_rfl) rfl rfl (by decide) (by simp [Zac, Zy]) ⟨⟨rfl, rfl, rfl, by first | omega | exact Nat.le_refl _ | exact Nat.zero_le _ | (dsimp only; omega), by first | omega | exact Nat.le_refl _ | exact Nat.zero_le _ | (dsimp only; omega)⟩, rfl, trivial⟩
end Go.Flat
