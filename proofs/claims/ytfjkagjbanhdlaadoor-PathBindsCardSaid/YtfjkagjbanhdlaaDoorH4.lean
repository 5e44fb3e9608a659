/- Walks. -/
import Derived.Test.YtfjkagjbanhdlaaDoorH3
set_option linter.unusedVariables false
set_option linter.unusedSimpArgs false
set_option maxRecDepth 20000
namespace Go.Flat
open Go.Proofs
variable {G : Glob}
structure Head where
  region : Int
  epoch : Int
  size : Int
  root : D
  tick : Int
structure Signed where
  head : Head
  node : Int
  tag : D
def Zav (h : Head) : List Value := [.int .i64 h.region, .int .i64 h.epoch, .int .i64 h.size] ++ Zac w8 32 h.root ++ [.int .i64 h.tick]
def Zbp (h : Head) : Value := .agg (Zav h).toArray
def Zd (s : Signed) : List Value := Zav s.head ++ [.int .i64 s.node] ++ Zac w8 32 s.tag
def Z0 (s : Signed) : Value := .agg (Zd s).toArray
def Zgd : Nat → List ByteArray → List Field
  | _, [] => []
  | k, x :: l => ⟨(k : Int) + 1, x⟩ :: Zgd (k + 1) l
def Zco (ls : List ByteArray) : Bs := (Z8 (Zgd 0 ls) 0 []).1
theorem Zy4 {ls : List ByteArray} {i : Nat} {acc R : List Field} (hR : acc ++ Zgd i (ls.drop i) = R) (hi : i < ls.length) : (acc ++ [⟨(i : Int) + 1, ls.getD i ⟨#[]⟩⟩]) ++ Zgd (i + 1) (ls.drop (i + 1)) = R := by
 have e : ls.drop i = ls.getD i ⟨#[]⟩ :: ls.drop (i + 1) := by
  rw [List.drop_eq_getElem_cons hi, List.getD_eq_getElem?_getD, List.getElem?_eq_getElem hi]; rfl
 rw [e, Zgd] at hR
 rw [← hR, List.append_assoc]; rfl
def Zc4 (n low high : Int) : Bool :=
  if low ≤ n then (if n ≤ high then true else
  false) else
  false
theorem Zca (n low high : Int) : Zae Tryd.prog G 41 [Iv n, Iv low, Iv high] [] (.bool (Zc4 n low high)) [] := by
 refine Zbj (fn := Tryd.f41) (nt := 15) rfl rfl rfl rfl ?_
 refine Zf (Zg (Zc rfl rfl (.bool false) rfl (Za (Zb (Zf (Zg (Ze rfl rfl (Iv n) rfl (Ze rfl rfl (Iv low) rfl ?_))))))))
 by_cases h1 : low ≤ n
 refine Zk (vx := Iv n) (vy := Iv low) rfl rfl (.bool true) rfl rfl (Zgm (by omega)) ?_
 refine Ze rfl rfl (.bool true) rfl (Ze rfl rfl (Iv n) rfl (Ze rfl rfl (Iv high) rfl ?_))
 by_cases h2 : n ≤ high
 refine Zk (vx := Iv n) (vy := Iv high) rfl rfl (.bool true) rfl rfl (Zt2 (by omega)) ?_
 refine Zo rfl rfl (.bool true) rfl (Zc rfl rfl (.bool true) rfl (Za (Zb (Zt (Zu ?_)))))
 rw [show Zc4 n low high = true from by unfold Zc4; rw [if_pos h1, if_pos h2]]
 exact Zm (v := .bool true) rfl rfl rfl (by kernel_rfl) rfl
 refine Zk (vx := Iv n) (vy := Iv high) rfl rfl (.bool false) rfl rfl (Zva (by omega)) ?_
 refine Zo rfl rfl (.bool false) rfl (Zc rfl rfl (.bool false) rfl (Za (Zb (Zt (Zu ?_)))))
 rw [show Zc4 n low high = false from by unfold Zc4; rw [if_pos h1, if_neg h2]]
 exact Zm (v := .bool false) rfl rfl rfl (by kernel_rfl) rfl
 refine Zk (vx := Iv n) (vy := Iv low) rfl rfl (.bool false) rfl rfl (Zgl (by omega)) ?_
 refine Ze rfl rfl (.bool false) rfl (Zj rfl rfl (Zj rfl rfl (Zj rfl rfl (Zo rfl rfl (.bool false) rfl (Zc rfl rfl (.bool false) rfl (Za (Zb (Zt (Zu ?_)))))))))
 rw [show Zc4 n low high = false from by unfold Zc4; rw [if_neg h1]]
 exact Zm (v := .bool false) rfl rfl rfl (by kernel_rfl) rfl
theorem Zb9 {n low high : Int} (h1 : low ≤ n) (h2 : n ≤ high) : Zc4 n low high = true := by unfold Zc4; rw [if_pos h1, if_pos h2]
theorem Zap {n low high : Int} (h : n < low ∨ high < n) : Zc4 n low high = false := by
 unfold Zc4
 by_cases h1 : low ≤ n
 ·rw [if_pos h1, if_neg (by omega)]
 ·rw [if_neg h1]
def Za5 (h : Head) : Int :=
  if 1 ≤ h.region then (if h.region ≤ 5 then (if 1 ≤ h.epoch then (if h.epoch ≤ 900000000 then (if 0 ≤ h.size then (if h.size ≤ 100000 then (if 0 ≤ h.tick then (if h.tick ≤ 900000000 then 0 else
  70) else
  70) else
  70) else
  70) else
  70) else
  70) else
  70) else
  70
theorem Zp2 (h : Head) : Zae Tryd.prog G 22 [Zbp h] [] (Iv (Za5 h)) [] := by
 refine Zbj (fn := Tryd.f22) (nt := 21) rfl rfl rfl rfl ?_
 refine Zaj 1 (H' := [hole]) rfl ?_
 refine Zf (Zg ?_)
 refine Zbr (v := Zbp h) (b := bxB 36 (Zav h)) (nid := 0) (H' := [bxB 36 (Zav h)]) rfl rfl rfl (by kernel_rfl) (by kernel_rfl) ?_
 refine Zc rfl rfl (Iv 0) rfl (Za (Zb (Zf (Zf (Zg ?_)))))
 refine Zi (b := 0) (o := 0) (n := 0) (o' := 0) rfl rfl rfl rfl rfl ?_
 refine Zl (p := pt 0 0) (v := Iv h.region) rfl rfl rfl (by kernel_rfl) ?_
 by_cases h1 : 1 ≤ h.region
 by_cases h2 : h.region ≤ 5
 refine Zq ((Zca (G := G) h.region 1 5).res (congrArg Value.bool (Zb9 (by omega) (by omega)))) (vals := [Iv h.region, Iv 1, Iv 5]) (res' := .bool true) rfl rfl rfl rfl rfl rfl ?_
 refine Ze rfl rfl (.bool true) rfl ?_
 refine Zi (b := 0) (o := 0) (n := 1) (o' := 1) rfl rfl rfl rfl rfl ?_
 refine Zl (p := pt 0 1) (v := Iv h.epoch) rfl rfl rfl (by kernel_rfl) ?_
 by_cases h3 : 1 ≤ h.epoch
 by_cases h4 : h.epoch ≤ 900000000
 refine Zq ((Zca (G := G) h.epoch 1 900000000).res (congrArg Value.bool (Zb9 (by omega) (by omega)))) (vals := [Iv h.epoch, Iv 1, Iv 900000000]) (res' := .bool true) rfl rfl rfl rfl rfl rfl ?_
 refine Zo rfl rfl (.bool true) rfl (Ze rfl rfl (.bool true) rfl ?_)
 refine Zi (b := 0) (o := 0) (n := 2) (o' := 2) rfl rfl rfl rfl rfl ?_
 refine Zl (p := pt 0 2) (v := Iv h.size) rfl rfl rfl (by kernel_rfl) ?_
 by_cases h5 : 0 ≤ h.size
 by_cases h6 : h.size ≤ 100000
 refine Zq ((Zca (G := G) h.size 0 100000).res (congrArg Value.bool (Zb9 (by omega) (by omega)))) (vals := [Iv h.size, Iv 0, Iv 100000]) (res' := .bool true) rfl rfl rfl rfl rfl rfl ?_
 refine Zo rfl rfl (.bool true) rfl (Ze rfl rfl (.bool true) rfl ?_)
 refine Zi (b := 0) (o := 0) (n := 35) (o' := 35) rfl rfl rfl rfl rfl ?_
 refine Zl (p := pt 0 35) (v := Iv h.tick) rfl rfl rfl (by kernel_rfl) ?_
 by_cases h7 : 0 ≤ h.tick
 by_cases h8 : h.tick ≤ 900000000
 refine Zq ((Zca (G := G) h.tick 0 900000000).res (congrArg Value.bool (Zb9 (by omega) (by omega)))) (vals := [Iv h.tick, Iv 0, Iv 900000000]) (res' := .bool true) rfl rfl rfl rfl rfl rfl ?_
 refine Zo rfl rfl (.bool true) rfl (Za (Zb (Zz rfl (Zf (Zg (Zc rfl rfl (Iv 0) rfl (Za (Zb (Zt (Z3 (Zu ?_)))))))))))
 rw [show Za5 h = 0 from by unfold Za5; rw [if_pos h1, if_pos h2, if_pos h3, if_pos h4, if_pos h5, if_pos h6, if_pos h7, if_pos h8]]
 exact Zm (v := Iv 0) rfl rfl rfl (by kernel_rfl) rfl
 refine Zq ((Zca (G := G) h.tick 0 900000000).res (congrArg Value.bool (Zap (by omega)))) (vals := [Iv h.tick, Iv 0, Iv 900000000]) (res' := .bool false) rfl rfl rfl rfl rfl rfl ?_
 refine Zo rfl rfl (.bool false) rfl (Za (Zb (Zv rfl (Z2 (Zb (Zf (Zg (Zc rfl rfl (Iv 70) rfl (Za (Zb (Zt (Zu ?_))))))))))))
 rw [show Za5 h = 70 from by unfold Za5; rw [if_pos h1, if_pos h2, if_pos h3, if_pos h4, if_pos h5, if_pos h6, if_pos h7, if_neg h8]]
 exact Zm (v := Iv 70) rfl rfl rfl (by kernel_rfl) rfl
 refine Zq ((Zca (G := G) h.tick 0 900000000).res (congrArg Value.bool (Zap (by omega)))) (vals := [Iv h.tick, Iv 0, Iv 900000000]) (res' := .bool false) rfl rfl rfl rfl rfl rfl ?_
 refine Zo rfl rfl (.bool false) rfl (Za (Zb (Zv rfl (Z2 (Zb (Zf (Zg (Zc rfl rfl (Iv 70) rfl (Za (Zb (Zt (Zu ?_))))))))))))
 rw [show Za5 h = 70 from by unfold Za5; rw [if_pos h1, if_pos h2, if_pos h3, if_pos h4, if_pos h5, if_pos h6, if_neg h7]]
 exact Zm (v := Iv 70) rfl rfl rfl (by kernel_rfl) rfl
 refine Zq ((Zca (G := G) h.size 0 100000).res (congrArg Value.bool (Zap (by omega)))) (vals := [Iv h.size, Iv 0, Iv 100000]) (res' := .bool false) rfl rfl rfl rfl rfl rfl ?_
 refine Zo rfl rfl (.bool false) rfl (Ze rfl rfl (.bool false) rfl (Zj rfl rfl (Zj rfl rfl (Zj rfl rfl (Zo rfl rfl (.bool false) rfl (Za (Zb (Zv rfl (Z2 (Zb (Zf (Zg (Zc rfl rfl (Iv 70) rfl (Za (Zb (Zt (Zu ?_)))))))))))))))))
 rw [show Za5 h = 70 from by unfold Za5; rw [if_pos h1, if_pos h2, if_pos h3, if_pos h4, if_pos h5, if_neg h6]]
 exact Zm (v := Iv 70) rfl rfl rfl (by kernel_rfl) rfl
 refine Zq ((Zca (G := G) h.size 0 100000).res (congrArg Value.bool (Zap (by omega)))) (vals := [Iv h.size, Iv 0, Iv 100000]) (res' := .bool false) rfl rfl rfl rfl rfl rfl ?_
 refine Zo rfl rfl (.bool false) rfl (Ze rfl rfl (.bool false) rfl (Zj rfl rfl (Zj rfl rfl (Zj rfl rfl (Zo rfl rfl (.bool false) rfl (Za (Zb (Zv rfl (Z2 (Zb (Zf (Zg (Zc rfl rfl (Iv 70) rfl (Za (Zb (Zt (Zu ?_)))))))))))))))))
 rw [show Za5 h = 70 from by unfold Za5; rw [if_pos h1, if_pos h2, if_pos h3, if_pos h4, if_neg h5]]
 exact Zm (v := Iv 70) rfl rfl rfl (by kernel_rfl) rfl
 refine Zq ((Zca (G := G) h.epoch 1 900000000).res (congrArg Value.bool (Zap (by omega)))) (vals := [Iv h.epoch, Iv 1, Iv 900000000]) (res' := .bool false) rfl rfl rfl rfl rfl rfl ?_
 refine Zo rfl rfl (.bool false) rfl (Ze rfl rfl (.bool false) rfl (Zj rfl rfl (Zj rfl rfl (Zj rfl rfl (Zo rfl rfl (.bool false) rfl (Ze rfl rfl (.bool false) rfl (Zj rfl rfl (Zj rfl rfl (Zj rfl rfl (Zo rfl rfl (.bool false) rfl (Za (Zb (Zv rfl (Z2 (Zb (Zf (Zg (Zc rfl rfl (Iv 70) rfl (Za (Zb (Zt (Zu ?_))))))))))))))))))))))
 rw [show Za5 h = 70 from by unfold Za5; rw [if_pos h1, if_pos h2, if_pos h3, if_neg h4]]
 exact Zm (v := Iv 70) rfl rfl rfl (by kernel_rfl) rfl
 refine Zq ((Zca (G := G) h.epoch 1 900000000).res (congrArg Value.bool (Zap (by omega)))) (vals := [Iv h.epoch, Iv 1, Iv 900000000]) (res' := .bool false) rfl rfl rfl rfl rfl rfl ?_
 refine Zo rfl rfl (.bool false) rfl (Ze rfl rfl (.bool false) rfl (Zj rfl rfl (Zj rfl rfl (Zj rfl rfl (Zo rfl rfl (.bool false) rfl (Ze rfl rfl (.bool false) rfl (Zj rfl rfl (Zj rfl rfl (Zj rfl rfl (Zo rfl rfl (.bool false) rfl (Za (Zb (Zv rfl (Z2 (Zb (Zf (Zg (Zc rfl rfl (Iv 70) rfl (Za (Zb (Zt (Zu ?_))))))))))))))))))))))
 rw [show Za5 h = 70 from by unfold Za5; rw [if_pos h1, if_pos h2, if_neg h3]]
 exact Zm (v := Iv 70) rfl rfl rfl (by kernel_rfl) rfl
 refine Zq ((Zca (G := G) h.region 1 5).res (congrArg Value.bool (Zap (by omega)))) (vals := [Iv h.region, Iv 1, Iv 5]) (res' := .bool false) rfl rfl rfl rfl rfl rfl ?_
 refine Ze rfl rfl (.bool false) rfl (Zj rfl rfl (Zj rfl rfl (Zj rfl rfl (Zo rfl rfl (.bool false) rfl (Ze rfl rfl (.bool false) rfl (Zj rfl rfl (Zj rfl rfl (Zj rfl rfl (Zo rfl rfl (.bool false) rfl (Ze rfl rfl (.bool false) rfl (Zj rfl rfl (Zj rfl rfl (Zj rfl rfl (Zo rfl rfl (.bool false) rfl (Za (Zb (Zv rfl (Z2 (Zb (Zf (Zg (Zc rfl rfl (Iv 70) rfl (Za (Zb (Zt (Zu ?_))))))))))))))))))))))))))
 rw [show Za5 h = 70 from by unfold Za5; rw [if_pos h1, if_neg h2]]
 exact Zm (v := Iv 70) rfl rfl rfl (by kernel_rfl) rfl
 refine Zq ((Zca (G := G) h.region 1 5).res (congrArg Value.bool (Zap (by omega)))) (vals := [Iv h.region, Iv 1, Iv 5]) (res' := .bool false) rfl rfl rfl rfl rfl rfl ?_
 refine Ze rfl rfl (.bool false) rfl (Zj rfl rfl (Zj rfl rfl (Zj rfl rfl (Zo rfl rfl (.bool false) rfl (Ze rfl rfl (.bool false) rfl (Zj rfl rfl (Zj rfl rfl (Zj rfl rfl (Zo rfl rfl (.bool false) rfl (Ze rfl rfl (.bool false) rfl (Zj rfl rfl (Zj rfl rfl (Zj rfl rfl (Zo rfl rfl (.bool false) rfl (Za (Zb (Zv rfl (Z2 (Zb (Zf (Zg (Zc rfl rfl (Iv 70) rfl (Za (Zb (Zt (Zu ?_))))))))))))))))))))))))))
 rw [show Za5 h = 70 from by unfold Za5; rw [if_neg h1]]
 exact Zm (v := Iv 70) rfl rfl rfl (by kernel_rfl) rfl
def Zf3 (h : Head) : Prop := (1 ≤ h.region ∧ h.region ≤ 5) ∧ (1 ≤ h.epoch ∧ h.epoch ≤ 900000000) ∧ (0 ≤ h.size ∧ h.size ≤ 100000) ∧ (0 ≤ h.tick ∧ h.tick ≤ 900000000)
instance (h : Head) : Decidable (Zf3 h) := inferInstanceAs (Decidable (_ ∧ _))
theorem Zf1 (h : Head) : Za5 h = if Zf3 h then 0 else 70 := by
 unfold Za5 Zf3
 repeat (first | split | omega)
theorem Zzc {h : Head} (hc : Za5 h = 0) : (1 ≤ h.region ∧ h.region ≤ 5) ∧ (1 ≤ h.epoch ∧ h.epoch ≤ 900000000) ∧ (0 ≤ h.size ∧ h.size ≤ 100000) ∧ (0 ≤ h.tick ∧ h.tick ≤ 900000000) := by
 rw [Zf1] at hc
 split at hc
 ·assumption
 ·omega
def Zhb (h : Head) : List ByteArray := [(Zr h.region).1, (Zr h.epoch).1, (Zr h.size).1, Zn (dgL h.root), (Zr h.tick).1]
def Zah (h : Head) : Bs × Int := if Za5 h = 0 then (Zco (Zhb h), 0) else ([], Za5 h)
theorem Zpa (ls : List ByteArray) (n : Nat) (x : ByteArray) (hn : ls.length = n) (hb : n ≤ 1000) : Zae Tryd.prog G 43 [pt 0 0, .string x] [rfB (slv 1 0 n n), txB ls] (.tuple #[]) [rfB (slv 1 0 (n + 1) (n + 1)), txB (ls ++ [x])] := by
  refine Zbj (fn := Tryd.f43) (nt := 12) rfl rfl rfl rfl ?_
  refine Zaj 1 (H' := [rfB (slv 1 0 n n), txB ls, hole]) rfl ?_
  refine Zg (Ze rfl rfl (pt 0 0) rfl (Ze rfl rfl (pt 0 0) rfl ?_))
  refine Zc0 (p := pt 0 0) (v := pt 0 0) rfl rfl rfl rfl ?_
  refine Zl (p := pt 0 0) (v := slv 1 0 n n) rfl rfl rfl rfl ?_
  refine Ze rfl rfl (.string x) rfl ?_
  refine Zda (vs := [(0, .string x)]) (v := slv 2 0 1 1) (blk := txB [x]) (nid := 2) (H' := [rfB (slv 1 0 n n), txB ls, txB [x]]) rfl rfl rfl (by kernel_rfl) (by kernel_rfl) ?_
  have hl2 : (ls ++ [x]).length = n + 1 := by have := hn; have := (rfl : _ = 1); first | (rw [List.length_append]; omega) | (simp; omega) | simp
  refine Zcv (p := slv 1 0 n n) (q := slv 2 0 1 1) (v := slv 1 0 (n + 1) (n + 1)) (b := 1) (blk := txB (ls ++ [x])) (H' := [rfB (dead), txB (ls ++ [x]), txB [x]]) rfl rfl rfl (.inl ⟨_, rfl⟩) rfl rfl (Zw7 (by_ := 16) (k := 1) (n' := n + 1) (ms := [x]) rfl rfl (by kernel_rfl) rfl (by have := hn; omega) (by omega) (by decide) (by omega)) rfl (by kernel_rfl) ?_
  refine Zc0 (p := pt 0 0) (v := pt 0 0) rfl rfl rfl rfl ?_
  refine Zx (p := pt 0 0) (v := slv 1 0 (n + 1) (n + 1)) (b := 0) (blk := rfB (slv 1 0 (n + 1) (n + 1))) (H' := [rfB (slv 1 0 (n + 1) (n + 1)), txB (ls ++ [x]), txB [x]]) rfl rfl rfl (by kernel_rfl) (by kernel_rfl) ?_
  refine Za (Zj0 ?_)
  exact Zm (v := .tuple #[]) rfl rfl rfl (by simp [Za9, rfB, txB, Zll, Zfu]) trivial
theorem Zj6 (ls : List ByteArray) (n : Nat) (x : Int) (hn : ls.length = n) (hb : n ≤ 1000) (hl : -9223372036854775808 ≤ x) (hh : x ≤ 9223372036854775807) : Zae Tryd.prog G 42 [pt 0 0, Iv x] [rfB (slv 1 0 n n), txB ls] (.tuple #[]) [rfB (slv 1 0 (n + 1) (n + 1)), txB (ls ++ [(Zr x).1])] := by
  refine Zbj (fn := Tryd.f42) (nt := 19) rfl rfl rfl rfl ?_
  refine Zaj 1 (H' := [rfB (slv 1 0 n n), txB ls, hole]) rfl ?_
  refine Zf (Zg (Ze rfl rfl (Iv x) rfl ?_))
  refine Zq (Zre (G := G) x (by omega) (by omega)) (vals := [Iv x]) (res' := .tuple #[.string ((Zr x).1), Iv ((Zr x).2)]) rfl rfl rfl rfl rfl (by kernel_rfl) ?_
  refine Ze rfl rfl (.tuple #[.string ((Zr x).1), Iv ((Zr x).2)]) rfl (Zp (vs := #[.string ((Zr x).1), Iv ((Zr x).2)]) (v := .string ((Zr x).1)) rfl rfl rfl rfl (Zp (vs := #[.string ((Zr x).1), Iv ((Zr x).2)]) (v := Iv ((Zr x).2)) rfl rfl rfl rfl (Zc rfl rfl (.string ((Zr x).1)) rfl (Zc rfl rfl (Iv ((Zr x).2)) rfl (Za (Zb (Zg (Ze rfl rfl (pt 0 0) rfl (Ze rfl rfl (pt 0 0) rfl ?_)))))))))
  refine Zc0 (p := pt 0 0) (v := pt 0 0) rfl rfl rfl rfl ?_
  refine Zl (p := pt 0 0) (v := slv 1 0 n n) rfl rfl rfl rfl ?_
  refine Ze rfl rfl (.string ((Zr x).1)) rfl ?_
  refine Zda (vs := [(0, .string ((Zr x).1))]) (v := slv 2 0 1 1) (blk := txB [(Zr x).1]) (nid := 2) (H' := [rfB (slv 1 0 n n), txB ls, txB [(Zr x).1]]) rfl rfl rfl (by kernel_rfl) (by kernel_rfl) ?_
  have hl2 : (ls ++ [(Zr x).1]).length = n + 1 := by have := hn; have := (rfl : _ = 1); first | (rw [List.length_append]; omega) | (simp; omega) | simp
  refine Zcv (p := slv 1 0 n n) (q := slv 2 0 1 1) (v := slv 1 0 (n + 1) (n + 1)) (b := 1) (blk := txB (ls ++ [(Zr x).1])) (H' := [rfB (dead), txB (ls ++ [(Zr x).1]), txB [(Zr x).1]]) rfl rfl rfl (.inl ⟨_, rfl⟩) rfl rfl (Zw7 (by_ := 16) (k := 1) (n' := n + 1) (ms := [(Zr x).1]) rfl rfl (by kernel_rfl) rfl (by have := hn; omega) (by omega) (by decide) (by omega)) rfl (by kernel_rfl) ?_
  refine Zc0 (p := pt 0 0) (v := pt 0 0) rfl rfl rfl rfl ?_
  refine Zx (p := pt 0 0) (v := slv 1 0 (n + 1) (n + 1)) (b := 0) (blk := rfB (slv 1 0 (n + 1) (n + 1))) (H' := [rfB (slv 1 0 (n + 1) (n + 1)), txB (ls ++ [(Zr x).1]), txB [(Zr x).1]]) rfl rfl rfl (by kernel_rfl) (by kernel_rfl) ?_
  refine Za (Zj0 ?_)
  exact Zm (v := .tuple #[]) rfl rfl rfl (by simp [Za9, rfB, txB, Zll, Zfu]) trivial
theorem Zue (ls : List ByteArray) (n : Nat) (hn : ls.length = n) (hb : n ≤ 1000) : Zae Tryd.prog G 44 [pt 0 0] [rfB (slv 1 0 n n), txB ls] (slv 2 0 (Zco ls).length (Zco ls).length) [rfB (slv 1 0 n n), txB ls, Zaq (Zco ls)] := by
  refine Zbj (fn := Tryd.f44) (nt := 31) rfl rfl rfl rfl ?_
  refine Zaj 1 (H' := [rfB (slv 1 0 n n), txB ls, hole]) rfl ?_
  refine Zf (Zg (Zc rfl rfl (.slice none 0 0) rfl (Za (Zb (Zf (Zg (Zc rfl rfl (.slice none 0 0) rfl (Za (Zb (Zf (Zf ?_)))))))))))
  refine Zb4 (Zbz.nilTmp (i := 3) (b := 2) true 2 rfl (by decide) rfl) ?_
  refine Zg (Ze rfl rfl (pt 0 0) rfl ?_)
  refine Zc0 (p := pt 0 0) (v := pt 0 0) rfl rfl rfl rfl ?_
  refine Zl (p := pt 0 0) (v := slv 1 0 n n) rfl rfl rfl rfl ?_
  refine Zbl (p := slv 1 0 n n) (v := Iv (n : Nat)) rfl rfl rfl rfl ?_
  refine Ze rfl rfl (Iv 0) rfl (Za (Zb (Z9 ?_)))
  refine Zch (fun x : Nat × (List Field) => match x with | (i, acc) => [pt 0 0, dead, .slice none 0 0, slv 2 0 i i, dead, dead, dead, dead, pt 0 0, pt 0 0, slv 1 0 n n, Iv (n : Nat), Iv (i : Nat)]) (fun x : Nat × (List Field) => match x with | (i, acc) => [rfB (slv 1 0 n n), txB ls, rwB cFd acc]) (fun x : Nat × (List Field) => match x with | (i, acc) => acc ++ Zgd i (ls.drop i) = Zgd 0 ls ∧ i ≤ n ∧ acc.length = i) (fun x : Nat × (List Field) => match x with | (i, acc) => n - i) (0, []) ⟨rfl, by omega, rfl⟩ ?_ ?_
  · refine Zal (n := 3) rfl ?_ (by kernel_rfl) (by kernel_rfl)
    repeat (first | exact trivial | refine ⟨.inl rfl, ?_⟩ | refine ⟨.inr ⟨rfl, rfl⟩, ?_⟩ | refine ⟨.inr ⟨congrArg (Value.int .i64) (by first | omega | (dsimp only; omega)), rfl⟩, ?_⟩)
  rintro ⟨i, acc⟩ ⟨hR, hi, ha⟩
  dsimp only at *
  refine Zaj 2 (H' := [rfB (slv 1 0 n n), txB ls, rwB cFd acc, hole, hole]) rfl ?_
  refine Zf (Zg ?_)
  by_cases h1 : (i : Nat) < (n : Nat)
  refine Zk (vx := Iv (i : Nat)) (vy := Iv (n : Nat)) rfl rfl (.bool true) rfl rfl (Zcq (by omega)) ?_
  refine Za (Zb (Zf (Zz rfl (Z2 (Zb (Zf (Z9 (Zf (Zg (Ze rfl rfl (Iv (i : Nat)) rfl ?_))))))))))
  refine Zbf (b := 1) (o := 0) (j := i) (m := n) (c := n) (sz := 1) (i := (i : Nat)) (k := .i64) rfl rfl rfl rfl rfl (by omega) (by omega) (by omega) ?_
  refine Zl (p := pt 1 i) (v := .string (ls.getD i ⟨#[]⟩)) rfl rfl rfl (Z3v rfl rfl rfl (by have := hn; omega)) ?_
  refine Zc rfl rfl (Iv (i : Nat)) rfl (Zc rfl rfl (.string (ls.getD i ⟨#[]⟩)) rfl (Za (Zb (Zg (Ze rfl rfl (slv 2 0 i i) rfl (Ze rfl rfl (Iv (i : Nat)) rfl ?_))))))
  refine Zk (vx := Iv (i : Nat)) (vy := Iv 1) rfl rfl (Iv ((i : Nat) + 1)) rfl rfl (Zaz (by omega) (by omega) (by omega)) ?_
  refine Ze rfl rfl (.string (ls.getD i ⟨#[]⟩)) rfl ?_
  refine Zbn (vs := [(0, Iv ((i : Nat) + 1)), (1, .string (ls.getD i ⟨#[]⟩))]) (v := fdV (⟨(i : Nat) + 1, (ls.getD i ⟨#[]⟩)⟩ : Field)) rfl rfl rfl (by kernel_rfl) ?_
  refine Zda (vs := [(0, fdV (⟨(i : Nat) + 1, (ls.getD i ⟨#[]⟩)⟩ : Field))]) (v := slv 3 0 1 1) (blk := rwB cFd [(⟨(i : Nat) + 1, (ls.getD i ⟨#[]⟩)⟩ : Field)]) (nid := 3) (H' := [rfB (slv 1 0 n n), txB ls, rwB cFd acc, rwB cFd [(⟨(i : Nat) + 1, (ls.getD i ⟨#[]⟩)⟩ : Field)], hole]) rfl rfl rfl (by kernel_rfl) (by kernel_rfl) ?_
  have hl2 : (acc ++ [(⟨(i : Nat) + 1, (ls.getD i ⟨#[]⟩)⟩ : Field)]).length = i + 1 := by have := ha; have := (rfl : _ = 1); first | (rw [List.length_append]; omega) | (simp; omega) | simp
  refine Zcv (p := slv 2 0 i i) (q := slv 3 0 1 1) (v := slv 2 0 (i + 1) (i + 1)) (b := 2) (blk := rwB cFd (acc ++ [(⟨(i : Nat) + 1, (ls.getD i ⟨#[]⟩)⟩ : Field)])) (H' := [rfB (slv 1 0 n n), txB ls, rwB cFd (acc ++ [(⟨(i : Nat) + 1, (ls.getD i ⟨#[]⟩)⟩ : Field)]), rwB cFd [(⟨(i : Nat) + 1, (ls.getD i ⟨#[]⟩)⟩ : Field)], hole]) rfl rfl rfl (.inl ⟨_, rfl⟩) rfl rfl (Zr0 cFd (by_ := 24) (k := 1) (n' := i + 1) (ms := [(⟨(i : Nat) + 1, (ls.getD i ⟨#[]⟩)⟩ : Field)]) (fun _ => rfl) rfl rfl (by kernel_rfl) rfl rfl (by have := ha; omega) (by omega) (by decide) (by omega)) rfl (by kernel_rfl) ?_
  refine Zc rfl rfl (slv 2 0 (i + 1) (i + 1)) rfl (Za (Zab (Zb (Zg ?_))))
  refine Zk (vx := Iv (i : Nat)) (vy := Iv 1) rfl rfl (Iv ((i : Nat) + 1)) rfl rfl (Zaz (by omega) (by omega) (by omega)) ?_
  refine Ze rfl rfl (Iv ((i : Nat) + 1)) rfl (Za ?_)
  refine Zas ⟨((i + 1), (acc ++ [(⟨(i : Nat) + 1, (ls.getD i ⟨#[]⟩)⟩ : Field)])), ⟨Zy4 hR (by omega), by omega, by rw [List.length_append, ha]; rfl⟩, by show n - (i + 1) < n - i; omega, ?_⟩
  refine Zal (n := 3) rfl ?_ (by kernel_rfl) (by kernel_rfl)
  repeat (first | exact trivial | refine ⟨.inl rfl, ?_⟩ | refine ⟨.inr ⟨rfl, rfl⟩, ?_⟩ | refine ⟨.inr ⟨congrArg (Value.int .i64) (by first | omega | (dsimp only; omega)), rfl⟩, ?_⟩)
  refine Zk (vx := Iv (i : Nat)) (vy := Iv (n : Nat)) rfl rfl (.bool false) rfl rfl (Zcj (by omega)) ?_
  refine Za (Zb (Zf (Zv rfl (Zbh (Zar (Za0 (Zaw rfl (Zb (Zf (Zg (Ze rfl rfl (slv 2 0 i i) rfl ?_)))))))))))
  refine Z4 (e := [some (2, 0)]) (nid := 3) (Z0v (G := G) acc i i ha (by omega) (by omega)) (vals := [slv 2 0 i i]) (v := .tuple #[slv 3 0 ((Z8 acc 0 []).1.length) ((Z8 acc 0 []).1.length), Iv ((Z8 acc 0 []).2)]) (H' := [rfB (slv 1 0 n n), txB ls, rwB cFd acc, Zaq ((Z8 acc 0 []).1), hole]) rfl rfl rfl rfl rfl rfl rfl ⟨⟨⟨rfl, rfl, rfl, by first | omega | exact Nat.le_refl _, by first | omega | exact Nat.le_refl _⟩, trivial⟩, ⟨(Zgr rfl), trivial⟩, rfl, rfl, rfl⟩ (by kernel_rfl) (by kernel_rfl) ?_
  refine Ze rfl rfl (.tuple #[slv 3 0 ((Z8 acc 0 []).1.length) ((Z8 acc 0 []).1.length), Iv ((Z8 acc 0 []).2)]) rfl (Zp (vs := #[slv 3 0 ((Z8 acc 0 []).1.length) ((Z8 acc 0 []).1.length), Iv ((Z8 acc 0 []).2)]) (v := slv 3 0 ((Z8 acc 0 []).1.length) ((Z8 acc 0 []).1.length)) rfl rfl rfl rfl (Zp (vs := #[slv 3 0 ((Z8 acc 0 []).1.length) ((Z8 acc 0 []).1.length), Iv ((Z8 acc 0 []).2)]) (v := Iv ((Z8 acc 0 []).2)) rfl rfl rfl rfl (Zc rfl rfl (slv 3 0 ((Z8 acc 0 []).1.length) ((Z8 acc 0 []).1.length)) rfl (Zc rfl rfl (Iv ((Z8 acc 0 []).2)) rfl (Za (Zb (Zf (Zg (Ze rfl rfl (slv 3 0 ((Z8 acc 0 []).1.length) ((Z8 acc 0 []).1.length)) rfl (Zc rfl rfl (slv 3 0 ((Z8 acc 0 []).1.length) ((Z8 acc 0 []).1.length)) rfl (Za (Zb (Zt (Zu ?_))))))))))))))
  have hR' : acc = Zgd 0 ls := by rw [← hR, List.drop_of_length_le (by omega)]; simp [Zgd]
  rw [show Zco ls = (Z8 acc 0 []).1 from by rw [hR']; rfl]
  exact Za7 [0, 1, 3] (v := slv 3 0 ((Z8 acc 0 []).1.length) ((Z8 acc 0 []).1.length)) rfl (by kernel_rfl) rfl rfl (by decide) (by simp [Za9, rfB, txB, Zaq, Zll, Zfu]) ⟨rfl, rfl, rfl, by first | omega | exact Nat.le_refl _ | exact Nat.zero_le _ | (dsimp only; omega), by first | omega | exact Nat.le_refl _ | exact Nat.zero_le _ | (dsimp only; omega)⟩
theorem Zwb (h : Head) : Zae Tryd.prog G 23 [Zbp h] [] (.tuple #[slv 0 0 (Zah h).1.length (Zah h).1.length, Iv (Zah h).2]) [Zaq (Zah h).1] := by
  refine Zbj (fn := Tryd.f23) (nt := 34) rfl rfl rfl rfl ?_
  refine Zaj 4 (H' := [hole, hole, hole, hole]) rfl ?_
  refine Zf (Zg ?_)
  refine Zbr (v := Zbp h) (b := bxB 36 (Zav h)) (nid := 0) (H' := [bxB 36 (Zav h), hole, hole, hole]) rfl rfl rfl (by kernel_rfl) (by kernel_rfl) ?_
  refine Zc rfl rfl (.slice none 0 0) rfl (Zc rfl rfl (Iv 0) rfl (Za (Zb (Zf (Zf (Zg ?_))))))
  refine Zl (p := pt 0 0) (v := Zbp h) rfl rfl rfl (by kernel_rfl) ?_
  refine Zq (Zp2 (G := G) h) (vals := [Zbp h]) (res' := Iv (Za5 h)) rfl rfl rfl rfl rfl rfl ?_
  refine Zc rfl rfl (Iv (Za5 h)) rfl (Za (Zb (Zf (Zg (Ze rfl rfl (Iv (Za5 h)) rfl ?_)))))
  by_cases h1 : (Za5 h) ≠ 0
  refine Zk (vx := Iv (Za5 h)) (vy := Iv 0) rfl rfl (.bool true) rfl rfl (Zdg (by omega)) ?_
  refine Za (Zb (Zz rfl (Zf (Zg (Ze rfl rfl (Iv (Za5 h)) rfl (Zc rfl rfl (.slice none 0 0) rfl (Zc rfl rfl (Iv (Za5 h)) rfl (Za (Zb ?_)))))))))
  refine Zb4 (Zbz.nilTmp (i := 2) (b := 1) true 1 rfl (by decide) rfl) ?_
  refine Zt (Z3 (Zu ?_))
  rw [show Zah h = ([], (Za5 h)) from if_neg (by omega)]
  exact Za7 [1] (v := .tuple #[slv 1 0 0 0, Iv (Za5 h)]) rfl (by kernel_rfl) rfl rfl (by decide) (by simp [Za9, Zaq]) ⟨⟨rfl, rfl, rfl, by first | omega | exact Nat.le_refl _ | exact Nat.zero_le _ | (dsimp only; omega), by first | omega | exact Nat.le_refl _ | exact Nat.zero_le _ | (dsimp only; omega)⟩, rfl, trivial⟩
  refine Zk (vx := Iv (Za5 h)) (vy := Iv 0) rfl rfl (.bool false) rfl rfl (Zc5 (by omega)) ?_
  refine Za (Zb (Zv rfl (Z2 (Zb (Zf (Zg ?_))))))
  refine Z7 (b := rfB (.slice none 0 0)) (nid := 1) (H' := [bxB 36 (Zav h), rfB (.slice none 0 0), hole, hole]) rfl rfl (by kernel_rfl) (by kernel_rfl) ?_
  refine Za (Zb (Zf ?_))
  have hc := Zzc (h := h) (by omega)
  refine Zb4 (Zbz.nilCell (k := 1) (j := 0) (b := 2) true 1 rfl (by decide) rfl (by show 0 < 1; decide) rfl rfl) ?_
  refine Zg ?_
  refine Znn (vs := [pt 1 0]) (ws := []) rfl rfl rfl rfl rfl ?_
  refine Zc rfl rfl (.func (.func 42) #[pt 1 0] #[]) rfl (Za (Zb (Zf (Zg (Ze rfl rfl (.func (.func 42) #[pt 1 0] #[]) rfl ?_)))))
  refine Zi (b := 0) (o := 0) (n := 0) (o' := 0) rfl rfl rfl rfl rfl ?_
  refine Zl (p := pt 0 0) (v := Iv h.region) rfl rfl rfl (by kernel_rfl) ?_
  refine Zct (e := [some (1, 0), some (2, 0)]) (nid := 0) (Zj6 (G := G) [] 0 h.region rfl (by omega) (by omega) (by omega)) (vals := [pt 1 0, Iv h.region]) (v := .tuple #[]) (H' := [bxB 36 (Zav h), rfB (slv 2 0 1 1), txB ([] ++ [(Zr h.region).1]), hole]) rfl rfl rfl rfl rfl rfl ⟨⟨⟨rfl, rfl⟩, rfl, trivial⟩, ⟨(Zau rfl rfl rfl rfl), (Zau rfl rfl rfl rfl), trivial⟩, rfl, rfl, rfl, Nat.le_refl _⟩ (by kernel_rfl) rfl (by kernel_rfl) ?_
  refine Za (Zb (Zf (Zg (Ze rfl rfl (.func (.func 42) #[pt 1 0] #[]) rfl ?_))))
  refine Zi (b := 0) (o := 0) (n := 1) (o' := 1) rfl rfl rfl rfl rfl ?_
  refine Zl (p := pt 0 1) (v := Iv h.epoch) rfl rfl rfl (by kernel_rfl) ?_
  refine Zct (e := [some (1, 0), some (2, 0)]) (nid := 0) (Zj6 (G := G) ([] ++ [(Zr h.region).1]) 1 h.epoch rfl (by omega) (by omega) (by omega)) (vals := [pt 1 0, Iv h.epoch]) (v := .tuple #[]) (H' := [bxB 36 (Zav h), rfB (slv 2 0 2 2), txB (([] ++ [(Zr h.region).1]) ++ [(Zr h.epoch).1]), hole]) rfl rfl rfl rfl rfl rfl ⟨⟨⟨rfl, rfl⟩, rfl, trivial⟩, ⟨(Zau rfl rfl rfl rfl), (Zau rfl rfl rfl rfl), trivial⟩, rfl, rfl, rfl, Nat.le_refl _⟩ (by kernel_rfl) rfl (by kernel_rfl) ?_
  refine Za (Zb (Zf (Zg (Ze rfl rfl (.func (.func 42) #[pt 1 0] #[]) rfl ?_))))
  refine Zi (b := 0) (o := 0) (n := 2) (o' := 2) rfl rfl rfl rfl rfl ?_
  refine Zl (p := pt 0 2) (v := Iv h.size) rfl rfl rfl (by kernel_rfl) ?_
  refine Zct (e := [some (1, 0), some (2, 0)]) (nid := 0) (Zj6 (G := G) (([] ++ [(Zr h.region).1]) ++ [(Zr h.epoch).1]) 2 h.size rfl (by omega) (by omega) (by omega)) (vals := [pt 1 0, Iv h.size]) (v := .tuple #[]) (H' := [bxB 36 (Zav h), rfB (slv 2 0 3 3), txB ((([] ++ [(Zr h.region).1]) ++ [(Zr h.epoch).1]) ++ [(Zr h.size).1]), hole]) rfl rfl rfl rfl rfl rfl ⟨⟨⟨rfl, rfl⟩, rfl, trivial⟩, ⟨(Zau rfl rfl rfl rfl), (Zau rfl rfl rfl rfl), trivial⟩, rfl, rfl, rfl, Nat.le_refl _⟩ (by kernel_rfl) rfl (by kernel_rfl) ?_
  refine Za (Zb (Zf (Zg ?_)))
  refine Zi (b := 0) (o := 0) (n := 3) (o' := 3) rfl rfl rfl rfl rfl ?_
  refine Zdd (p := pt 0 3) (vl := none) (vh := none) (v := slv 0 3 32 32) rfl rfl rfl rfl rfl rfl ?_
  refine Zfm (p := slv 0 3 32 32) (v := .string (Zn (dgL h.root))) rfl rfl rfl (Zd9 (l := (dgL h.root)) rfl rfl rfl rfl (of_decide_eq_true (by kernel_rfl)) (by kernel_rfl)) ?_
  refine Zct (e := [some (1, 0), some (2, 0)]) (nid := 0) (Zpa (G := G) ((([] ++ [(Zr h.region).1]) ++ [(Zr h.epoch).1]) ++ [(Zr h.size).1]) 3 (Zn (dgL h.root)) rfl (by omega)) (vals := [pt 1 0, .string (Zn (dgL h.root))]) (v := .tuple #[]) (H' := [bxB 36 (Zav h), rfB (slv 2 0 4 4), txB (((([] ++ [(Zr h.region).1]) ++ [(Zr h.epoch).1]) ++ [(Zr h.size).1]) ++ [(Zn (dgL h.root))]), hole]) rfl rfl rfl rfl rfl rfl ⟨⟨⟨rfl, rfl⟩, rfl, trivial⟩, ⟨(Zau rfl rfl rfl rfl), (Zau rfl rfl rfl rfl), trivial⟩, rfl, rfl, rfl, Nat.le_refl _⟩ (by kernel_rfl) rfl (by kernel_rfl) ?_
  refine Za (Zb (Zf (Zg (Ze rfl rfl (.func (.func 42) #[pt 1 0] #[]) rfl ?_))))
  refine Zi (b := 0) (o := 0) (n := 35) (o' := 35) rfl rfl rfl rfl rfl ?_
  refine Zl (p := pt 0 35) (v := Iv h.tick) rfl rfl rfl (by kernel_rfl) ?_
  refine Zct (e := [some (1, 0), some (2, 0)]) (nid := 0) (Zj6 (G := G) (((([] ++ [(Zr h.region).1]) ++ [(Zr h.epoch).1]) ++ [(Zr h.size).1]) ++ [(Zn (dgL h.root))]) 4 h.tick rfl (by omega) (by omega) (by omega)) (vals := [pt 1 0, Iv h.tick]) (v := .tuple #[]) (H' := [bxB 36 (Zav h), rfB (slv 2 0 5 5), txB ((((([] ++ [(Zr h.region).1]) ++ [(Zr h.epoch).1]) ++ [(Zr h.size).1]) ++ [(Zn (dgL h.root))]) ++ [(Zr h.tick).1]), hole]) rfl rfl rfl rfl rfl rfl ⟨⟨⟨rfl, rfl⟩, rfl, trivial⟩, ⟨(Zau rfl rfl rfl rfl), (Zau rfl rfl rfl rfl), trivial⟩, rfl, rfl, rfl, Nat.le_refl _⟩ (by kernel_rfl) rfl (by kernel_rfl) ?_
  refine Za (Zb (Zf (Zg ?_)))
  refine Zct (e := [some (1, 0), some (2, 0)]) (nid := 3) (Zue (G := G) ((((([] ++ [(Zr h.region).1]) ++ [(Zr h.epoch).1]) ++ [(Zr h.size).1]) ++ [(Zn (dgL h.root))]) ++ [(Zr h.tick).1]) 5 rfl (by omega)) (vals := [pt 1 0]) (v := slv 3 0 ((Zco ((((([] ++ [(Zr h.region).1]) ++ [(Zr h.epoch).1]) ++ [(Zr h.size).1]) ++ [(Zn (dgL h.root))]) ++ [(Zr h.tick).1])).length) ((Zco ((((([] ++ [(Zr h.region).1]) ++ [(Zr h.epoch).1]) ++ [(Zr h.size).1]) ++ [(Zn (dgL h.root))]) ++ [(Zr h.tick).1])).length)) (H' := [bxB 36 (Zav h), rfB (slv 2 0 5 5), txB ((((([] ++ [(Zr h.region).1]) ++ [(Zr h.epoch).1]) ++ [(Zr h.size).1]) ++ [(Zn (dgL h.root))]) ++ [(Zr h.tick).1]), Zaq (Zco ((((([] ++ [(Zr h.region).1]) ++ [(Zr h.epoch).1]) ++ [(Zr h.size).1]) ++ [(Zn (dgL h.root))]) ++ [(Zr h.tick).1]))]) rfl rfl rfl rfl rfl rfl ⟨⟨⟨rfl, rfl⟩, trivial⟩, ⟨(Zau rfl rfl rfl rfl), (Zau rfl rfl rfl rfl), trivial⟩, rfl, rfl, rfl, Nat.le_refl _⟩ rfl rfl (by kernel_rfl) ?_
  refine Zc rfl rfl (slv 3 0 ((Zco ((((([] ++ [(Zr h.region).1]) ++ [(Zr h.epoch).1]) ++ [(Zr h.size).1]) ++ [(Zn (dgL h.root))]) ++ [(Zr h.tick).1])).length) ((Zco ((((([] ++ [(Zr h.region).1]) ++ [(Zr h.epoch).1]) ++ [(Zr h.size).1]) ++ [(Zn (dgL h.root))]) ++ [(Zr h.tick).1])).length)) rfl ?_
  refine Zc rfl rfl (Iv 0) rfl (Za (Zb (Zt (Zu ?_))))
  rw [show Zah h = ((Zco ((((([] ++ [(Zr h.region).1]) ++ [(Zr h.epoch).1]) ++ [(Zr h.size).1]) ++ [(Zn (dgL h.root))]) ++ [(Zr h.tick).1])), 0) from if_pos (by omega)]
  exact Za7 [3] (v := .tuple #[slv 3 0 ((Zco ((((([] ++ [(Zr h.region).1]) ++ [(Zr h.epoch).1]) ++ [(Zr h.size).1]) ++ [(Zn (dgL h.root))]) ++ [(Zr h.tick).1])).length) ((Zco ((((([] ++ [(Zr h.region).1]) ++ [(Zr h.epoch).1]) ++ [(Zr h.size).1]) ++ [(Zn (dgL h.root))]) ++ [(Zr h.tick).1])).length), Iv 0]) rfl (by kernel_rfl) rfl rfl (by decide) (by simp [Za9, Zaq]) ⟨⟨rfl, rfl, rfl, by first | omega | exact Nat.le_refl _ | exact Nat.zero_le _ | (dsimp only; omega), by first | omega | exact Nat.le_refl _ | exact Nat.zero_le _ | (dsimp only; omega)⟩, rfl, trivial⟩
end Go.Flat
