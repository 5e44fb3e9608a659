/- Walks. -/
import Derived.Test.YtfjkagjbanhdlaaDoorH3
set_option linter.unusedVariables false
set_option linter.unusedSimpArgs false
set_option maxRecDepth 20000
namespace Go.Flat
open Go.Proofs
variable {G : Glob}
structure Head where
  region : Int
  epoch : Int
  size : Int
  root : D
  tick : Int
structure Signed where
  head : Head
  node : Int
  tag : D
def Zcq (h : Head) : List Value := [.int .i64 h.region, .int .i64 h.epoch, .int .i64 h.size] ++ Z6 w8 32 h.root ++ [.int .i64 h.tick]
def Zb2 (h : Head) : Value := .agg (Zcq h).toArray
def Zh (s : Signed) : List Value := Zcq s.head ++ [.int .i64 s.node] ++ Z6 w8 32 s.tag
def Zw (s : Signed) : Value := .agg (Zh s).toArray
def Zgt : Nat → List ByteArray → List Field
  | _, [] => []
  | k, x :: l => ⟨(k : Int) + 1, x⟩ :: Zgt (k + 1) l
def Zcm (ls : List ByteArray) : Bs := (Z4 (Zgt 0 ls) 0 []).1
theorem Zz1 {ls : List ByteArray} {i : Nat} {acc R : List Field} (hR : acc ++ Zgt i (ls.drop i) = R) (hi : i < ls.length) : (acc ++ [⟨(i : Int) + 1, ls.getD i ⟨#[]⟩⟩]) ++ Zgt (i + 1) (ls.drop (i + 1)) = R := by
 have e : ls.drop i = ls.getD i ⟨#[]⟩ :: ls.drop (i + 1) := by
  rw [List.drop_eq_getElem_cons hi, List.getD_eq_getElem?_getD, List.getElem?_eq_getElem hi]; rfl
 rw [e, Zgt] at hR
 rw [← hR, List.append_assoc]; rfl
def Zdj (n low high : Int) : Bool :=
  if low ≤ n then (if n ≤ high then true else
  false) else
  false
theorem Zb9 (n low high : Int) : Z9 Tryd.prog G 41 [Iv n, Iv low, Iv high] [] (.bool (Zdj n low high)) [] := by
 refine Zbu (fn := Tryd.f41) (nt := 15) rfl rfl rfl rfl ?_
 refine Ze (Zf (Zb (.bool false) (Za (Zc (Ze (Zf (Zd (Iv n) (Zd (Iv low) ?_))))))))
 by_cases h1 : low ≤ n
 refine Zj (vx := Iv n) (vy := Iv low) rfl rfl (.bool true) rfl rfl (Zgy (by omega)) ?_
 refine Zd (.bool true) (Zd (Iv n) (Zd (Iv high) ?_))
 by_cases h2 : n ≤ high
 refine Zj (vx := Iv n) (vy := Iv high) rfl rfl (.bool true) rfl rfl (Zup (by omega)) ?_
 refine Zl (.bool true) (Zb (.bool true) (Za (Zc (Zs (Zu ?_)))))
 rw [show Zdj n low high = true from by unfold Zdj; rw [if_pos h1, if_pos h2]]
 exact Zm (v := .bool true) rfl rfl rfl (by kernel_rfl) rfl
 refine Zj (vx := Iv n) (vy := Iv high) rfl rfl (.bool false) rfl rfl (Zuo (by omega)) ?_
 refine Zl (.bool false) (Zb (.bool false) (Za (Zc (Zs (Zu ?_)))))
 rw [show Zdj n low high = false from by unfold Zdj; rw [if_pos h1, if_neg h2]]
 exact Zm (v := .bool false) rfl rfl rfl (by kernel_rfl) rfl
 refine Zj (vx := Iv n) (vy := Iv low) rfl rfl (.bool false) rfl rfl (Zhi (by omega)) ?_
 refine Zd (.bool false) (Zg (Zg (Zg (Zl (.bool false) (Zb (.bool false) (Za (Zc (Zs (Zu ?_)))))))))
 rw [show Zdj n low high = false from by unfold Zdj; rw [if_neg h1]]
 exact Zm (v := .bool false) rfl rfl rfl (by kernel_rfl) rfl
theorem Zb8 {n low high : Int} (h1 : low ≤ n) (h2 : n ≤ high) : Zdj n low high = true := by unfold Zdj; rw [if_pos h1, if_pos h2]
theorem Zao {n low high : Int} (h : n < low ∨ high < n) : Zdj n low high = false := by
 unfold Zdj
 by_cases h1 : low ≤ n
 ·rw [if_pos h1, if_neg (by omega)]
 ·rw [if_neg h1]
def Za7 (h : Head) : Int :=
  if 1 ≤ h.region then (if h.region ≤ 5 then (if 1 ≤ h.epoch then (if h.epoch ≤ 900000000 then (if 0 ≤ h.size then (if h.size ≤ 100000 then (if 0 ≤ h.tick then (if h.tick ≤ 900000000 then 0 else
  70) else
  70) else
  70) else
  70) else
  70) else
  70) else
  70) else
  70
theorem Zo8 (h : Head) : Z9 Tryd.prog G 22 [Zb2 h] [] (Iv (Za7 h)) [] := by
 refine Zbu (fn := Tryd.f22) (nt := 21) rfl rfl rfl rfl ?_
 refine Zaj 1 (H' := [hole]) rfl ?_
 refine Ze (Zf (Zci (v := Zb2 h) (b := bxB 36 (Zcq h)) (nid := 0) (H' := [bxB 36 (Zcq h)]) (Zb (Iv 0) (Za (Zc (Ze (Ze (Zf (Zi (b := 0) (o := 0) (n := 0) (o' := 0) (Zn (p := pt 0 0) (v := Iv h.region) ?_))))))))))
 by_cases h1 : 1 ≤ h.region
 by_cases h2 : h.region ≤ 5
 refine Zp ((Zb9 (G := G) h.region 1 5).res (congrArg Value.bool (Zb8 (by omega) (by omega)))) (vals := [Iv h.region, Iv 1, Iv 5]) (res' := .bool true) rfl rfl rfl rfl rfl rfl ?_
 refine Zd (.bool true) (Zi (b := 0) (o := 0) (n := 1) (o' := 1) (Zn (p := pt 0 1) (v := Iv h.epoch) ?_))
 by_cases h3 : 1 ≤ h.epoch
 by_cases h4 : h.epoch ≤ 900000000
 refine Zp ((Zb9 (G := G) h.epoch 1 900000000).res (congrArg Value.bool (Zb8 (by omega) (by omega)))) (vals := [Iv h.epoch, Iv 1, Iv 900000000]) (res' := .bool true) rfl rfl rfl rfl rfl rfl ?_
 refine Zl (.bool true) (Zd (.bool true) (Zi (b := 0) (o := 0) (n := 2) (o' := 2) (Zn (p := pt 0 2) (v := Iv h.size) ?_)))
 by_cases h5 : 0 ≤ h.size
 by_cases h6 : h.size ≤ 100000
 refine Zp ((Zb9 (G := G) h.size 0 100000).res (congrArg Value.bool (Zb8 (by omega) (by omega)))) (vals := [Iv h.size, Iv 0, Iv 100000]) (res' := .bool true) rfl rfl rfl rfl rfl rfl ?_
 refine Zl (.bool true) (Zd (.bool true) (Zi (b := 0) (o := 0) (n := 35) (o' := 35) (Zn (p := pt 0 35) (v := Iv h.tick) ?_)))
 by_cases h7 : 0 ≤ h.tick
 by_cases h8 : h.tick ≤ 900000000
 refine Zp ((Zb9 (G := G) h.tick 0 900000000).res (congrArg Value.bool (Zb8 (by omega) (by omega)))) (vals := [Iv h.tick, Iv 0, Iv 900000000]) (res' := .bool true) rfl rfl rfl rfl rfl rfl ?_
 refine Zl (.bool true) (Za (Zc (Zv rfl (Ze (Zf (Zb (Iv 0) (Za (Zc (Zs (Zaa (Zu ?_)))))))))))
 rw [show Za7 h = 0 from by unfold Za7; rw [if_pos h1, if_pos h2, if_pos h3, if_pos h4, if_pos h5, if_pos h6, if_pos h7, if_pos h8]]
 exact Zm (v := Iv 0) rfl rfl rfl (by kernel_rfl) rfl
 refine Zp ((Zb9 (G := G) h.tick 0 900000000).res (congrArg Value.bool (Zao (by omega)))) (vals := [Iv h.tick, Iv 0, Iv 900000000]) (res' := .bool false) rfl rfl rfl rfl rfl rfl ?_
 refine Zl (.bool false) (Za (Zc (Zt rfl (Z0 (Zc (Ze (Zf (Zb (Iv 70) (Za (Zc (Zs (Zu ?_))))))))))))
 rw [show Za7 h = 70 from by unfold Za7; rw [if_pos h1, if_pos h2, if_pos h3, if_pos h4, if_pos h5, if_pos h6, if_pos h7, if_neg h8]]
 exact Zm (v := Iv 70) rfl rfl rfl (by kernel_rfl) rfl
 refine Zp ((Zb9 (G := G) h.tick 0 900000000).res (congrArg Value.bool (Zao (by omega)))) (vals := [Iv h.tick, Iv 0, Iv 900000000]) (res' := .bool false) rfl rfl rfl rfl rfl rfl ?_
 refine Zl (.bool false) (Za (Zc (Zt rfl (Z0 (Zc (Ze (Zf (Zb (Iv 70) (Za (Zc (Zs (Zu ?_))))))))))))
 rw [show Za7 h = 70 from by unfold Za7; rw [if_pos h1, if_pos h2, if_pos h3, if_pos h4, if_pos h5, if_pos h6, if_neg h7]]
 exact Zm (v := Iv 70) rfl rfl rfl (by kernel_rfl) rfl
 refine Zp ((Zb9 (G := G) h.size 0 100000).res (congrArg Value.bool (Zao (by omega)))) (vals := [Iv h.size, Iv 0, Iv 100000]) (res' := .bool false) rfl rfl rfl rfl rfl rfl ?_
 refine Zl (.bool false) (Zd (.bool false) (Zg (Zg (Zg (Zl (.bool false) (Za (Zc (Zt rfl (Z0 (Zc (Ze (Zf (Zb (Iv 70) (Za (Zc (Zs (Zu ?_)))))))))))))))))
 rw [show Za7 h = 70 from by unfold Za7; rw [if_pos h1, if_pos h2, if_pos h3, if_pos h4, if_pos h5, if_neg h6]]
 exact Zm (v := Iv 70) rfl rfl rfl (by kernel_rfl) rfl
 refine Zp ((Zb9 (G := G) h.size 0 100000).res (congrArg Value.bool (Zao (by omega)))) (vals := [Iv h.size, Iv 0, Iv 100000]) (res' := .bool false) rfl rfl rfl rfl rfl rfl ?_
 refine Zl (.bool false) (Zd (.bool false) (Zg (Zg (Zg (Zl (.bool false) (Za (Zc (Zt rfl (Z0 (Zc (Ze (Zf (Zb (Iv 70) (Za (Zc (Zs (Zu ?_)))))))))))))))))
 rw [show Za7 h = 70 from by unfold Za7; rw [if_pos h1, if_pos h2, if_pos h3, if_pos h4, if_neg h5]]
 exact Zm (v := Iv 70) rfl rfl rfl (by kernel_rfl) rfl
 refine Zp ((Zb9 (G := G) h.epoch 1 900000000).res (congrArg Value.bool (Zao (by omega)))) (vals := [Iv h.epoch, Iv 1, Iv 900000000]) (res' := .bool false) rfl rfl rfl rfl rfl rfl ?_
 refine Zl (.bool false) (Zd (.bool false) (Zg (Zg (Zg (Zl (.bool false) (Zd (.bool false) (Zg (Zg (Zg (Zl (.bool false) (Za (Zc (Zt rfl (Z0 (Zc (Ze (Zf (Zb (Iv 70) (Za (Zc (Zs (Zu ?_))))))))))))))))))))))
 rw [show Za7 h = 70 from by unfold Za7; rw [if_pos h1, if_pos h2, if_pos h3, if_neg h4]]
 exact Zm (v := Iv 70) rfl rfl rfl (by kernel_rfl) rfl
 refine Zp ((Zb9 (G := G) h.epoch 1 900000000).res (congrArg Value.bool (Zao (by omega)))) (vals := [Iv h.epoch, Iv 1, Iv 900000000]) (res' := .bool false) rfl rfl rfl rfl rfl rfl ?_
 refine Zl (.bool false) (Zd (.bool false) (Zg (Zg (Zg (Zl (.bool false) (Zd (.bool false) (Zg (Zg (Zg (Zl (.bool false) (Za (Zc (Zt rfl (Z0 (Zc (Ze (Zf (Zb (Iv 70) (Za (Zc (Zs (Zu ?_))))))))))))))))))))))
 rw [show Za7 h = 70 from by unfold Za7; rw [if_pos h1, if_pos h2, if_neg h3]]
 exact Zm (v := Iv 70) rfl rfl rfl (by kernel_rfl) rfl
 refine Zp ((Zb9 (G := G) h.region 1 5).res (congrArg Value.bool (Zao (by omega)))) (vals := [Iv h.region, Iv 1, Iv 5]) (res' := .bool false) rfl rfl rfl rfl rfl rfl ?_
 refine Zd (.bool false) (Zg (Zg (Zg (Zl (.bool false) (Zd (.bool false) (Zg (Zg (Zg (Zl (.bool false) (Zd (.bool false) (Zg (Zg (Zg (Zl (.bool false) (Za (Zc (Zt rfl (Z0 (Zc (Ze (Zf (Zb (Iv 70) (Za (Zc (Zs (Zu ?_))))))))))))))))))))))))))
 rw [show Za7 h = 70 from by unfold Za7; rw [if_pos h1, if_neg h2]]
 exact Zm (v := Iv 70) rfl rfl rfl (by kernel_rfl) rfl
 refine Zp ((Zb9 (G := G) h.region 1 5).res (congrArg Value.bool (Zao (by omega)))) (vals := [Iv h.region, Iv 1, Iv 5]) (res' := .bool false) rfl rfl rfl rfl rfl rfl ?_
 refine Zd (.bool false) (Zg (Zg (Zg (Zl (.bool false) (Zd (.bool false) (Zg (Zg (Zg (Zl (.bool false) (Zd (.bool false) (Zg (Zg (Zg (Zl (.bool false) (Za (Zc (Zt rfl (Z0 (Zc (Ze (Zf (Zb (Iv 70) (Za (Zc (Zs (Zu ?_))))))))))))))))))))))))))
 rw [show Za7 h = 70 from by unfold Za7; rw [if_neg h1]]
 exact Zm (v := Iv 70) rfl rfl rfl (by kernel_rfl) rfl
def Zgd (h : Head) : Prop := (1 ≤ h.region ∧ h.region ≤ 5) ∧ (1 ≤ h.epoch ∧ h.epoch ≤ 900000000) ∧ (0 ≤ h.size ∧ h.size ≤ 100000) ∧ (0 ≤ h.tick ∧ h.tick ≤ 900000000)
instance (h : Head) : Decidable (Zgd h) := inferInstanceAs (Decidable (_ ∧ _))
theorem Zf7 (h : Head) : Za7 h = if Zgd h then 0 else 70 := by
 unfold Za7 Zgd
 repeat (first | split | omega)
theorem Zzc {h : Head} (hc : Za7 h = 0) : (1 ≤ h.region ∧ h.region ≤ 5) ∧ (1 ≤ h.epoch ∧ h.epoch ≤ 900000000) ∧ (0 ≤ h.size ∧ h.size ≤ 100000) ∧ (0 ≤ h.tick ∧ h.tick ≤ 900000000) := by
 rw [Zf7] at hc
 split at hc
 ·assumption
 ·omega
def Zhj (h : Head) : List ByteArray := [(Zo h.region).1, (Zo h.epoch).1, (Zo h.size).1, Zk (dgL h.root), (Zo h.tick).1]
def Zad (h : Head) : Bs × Int := if Za7 h = 0 then (Zcm (Zhj h), 0) else ([], Za7 h)
theorem Zqj (ls : List ByteArray) (n : Nat) (x : ByteArray) (hn : ls.length = n) (hb : n ≤ 1000) : Z9 Tryd.prog G 43 [pt 0 0, .string x] [rfB (slv 1 0 n n), txB ls] (.tuple #[]) [rfB (slv 1 0 (n + 1) (n + 1)), txB (ls ++ [x])] := by
  refine Zbu (fn := Tryd.f43) (nt := 12) rfl rfl rfl rfl ?_
  refine Zaj 1 (H' := [rfB (slv 1 0 n n), txB ls, hole]) rfl ?_
  refine Zf (Zd (pt 0 0) (Zd (pt 0 0) (Ze7 (p := pt 0 0) (v := pt 0 0) ?_)))
  refine Zal (p := pt 0 0) (v := slv 1 0 n n) rfl rfl rfl rfl ?_
  refine Zd (.string x) ?_
  refine Zel (vs := [(0, .string x)]) (v := slv 2 0 1 1) (blk := txB [x]) (nid := 2) (H' := [rfB (slv 1 0 n n), txB ls, txB [x]]) rfl rfl rfl (by kernel_rfl) (by kernel_rfl) ?_
  have hl2 : (ls ++ [x]).length = n + 1 := by have := hn; have := (rfl : _ = 1); first | (rw [List.length_append]; omega) | (simp; omega) | simp
  refine Zc9 (p := slv 1 0 n n) (q := slv 2 0 1 1) (v := slv 1 0 (n + 1) (n + 1)) (b := 1) (blk := txB (ls ++ [x])) (H' := [rfB (dead), txB (ls ++ [x]), txB [x]]) rfl rfl rfl (.inl ⟨_, rfl⟩) rfl rfl (Zxy (by_ := 16) (k := 1) (n' := n + 1) (ms := [x]) rfl rfl (by kernel_rfl) rfl (by have := hn; omega) (by omega) (by decide) (by omega)) rfl (by kernel_rfl) ?_
  refine Ze7 (p := pt 0 0) (v := pt 0 0) (Z2 (p := pt 0 0) (v := slv 1 0 (n + 1) (n + 1)) (b := 0) (blk := rfB (slv 1 0 (n + 1) (n + 1))) (H' := [rfB (slv 1 0 (n + 1) (n + 1)), txB (ls ++ [x]), txB [x]]) (Za (Zkr ?_)))
  exact Zm (v := .tuple #[]) rfl rfl rfl (by simp [Zbe, rfB, txB, Zlu, Zfz]) trivial
theorem Zkl (ls : List ByteArray) (n : Nat) (x : Int) (hn : ls.length = n) (hb : n ≤ 1000) (hl : -9223372036854775808 ≤ x) (hh : x ≤ 9223372036854775807) : Z9 Tryd.prog G 42 [pt 0 0, Iv x] [rfB (slv 1 0 n n), txB ls] (.tuple #[]) [rfB (slv 1 0 (n + 1) (n + 1)), txB (ls ++ [(Zo x).1])] := by
  refine Zbu (fn := Tryd.f42) (nt := 19) rfl rfl rfl rfl ?_
  refine Zaj 1 (H' := [rfB (slv 1 0 n n), txB ls, hole]) rfl ?_
  refine Ze (Zf (Zd (Iv x) ?_))
  refine Zp (Zq7 (G := G) x (by omega) (by omega)) (vals := [Iv x]) (res' := .tuple #[.string ((Zo x).1), Iv ((Zo x).2)]) rfl rfl rfl rfl rfl (by kernel_rfl) ?_
  refine Zd (.tuple #[.string ((Zo x).1), Iv ((Zo x).2)]) (Zq (vs := #[.string ((Zo x).1), Iv ((Zo x).2)]) (v := .string ((Zo x).1)) (Zq (vs := #[.string ((Zo x).1), Iv ((Zo x).2)]) (v := Iv ((Zo x).2)) (Zb (.string ((Zo x).1)) (Zb (Iv ((Zo x).2)) (Za (Zc (Zf (Zd (pt 0 0) (Zd (pt 0 0) (Ze7 (p := pt 0 0) (v := pt 0 0) ?_))))))))))
  refine Zal (p := pt 0 0) (v := slv 1 0 n n) rfl rfl rfl rfl ?_
  refine Zd (.string ((Zo x).1)) ?_
  refine Zel (vs := [(0, .string ((Zo x).1))]) (v := slv 2 0 1 1) (blk := txB [(Zo x).1]) (nid := 2) (H' := [rfB (slv 1 0 n n), txB ls, txB [(Zo x).1]]) rfl rfl rfl (by kernel_rfl) (by kernel_rfl) ?_
  have hl2 : (ls ++ [(Zo x).1]).length = n + 1 := by have := hn; have := (rfl : _ = 1); first | (rw [List.length_append]; omega) | (simp; omega) | simp
  refine Zc9 (p := slv 1 0 n n) (q := slv 2 0 1 1) (v := slv 1 0 (n + 1) (n + 1)) (b := 1) (blk := txB (ls ++ [(Zo x).1])) (H' := [rfB (dead), txB (ls ++ [(Zo x).1]), txB [(Zo x).1]]) rfl rfl rfl (.inl ⟨_, rfl⟩) rfl rfl (Zxy (by_ := 16) (k := 1) (n' := n + 1) (ms := [(Zo x).1]) rfl rfl (by kernel_rfl) rfl (by have := hn; omega) (by omega) (by decide) (by omega)) rfl (by kernel_rfl) ?_
  refine Ze7 (p := pt 0 0) (v := pt 0 0) (Z2 (p := pt 0 0) (v := slv 1 0 (n + 1) (n + 1)) (b := 0) (blk := rfB (slv 1 0 (n + 1) (n + 1))) (H' := [rfB (slv 1 0 (n + 1) (n + 1)), txB (ls ++ [(Zo x).1]), txB [(Zo x).1]]) (Za (Zkr ?_)))
  exact Zm (v := .tuple #[]) rfl rfl rfl (by simp [Zbe, rfB, txB, Zlu, Zfz]) trivial
theorem Zts (ls : List ByteArray) (n : Nat) (hn : ls.length = n) (hb : n ≤ 1000) : Z9 Tryd.prog G 44 [pt 0 0] [rfB (slv 1 0 n n), txB ls] (slv 2 0 (Zcm ls).length (Zcm ls).length) [rfB (slv 1 0 n n), txB ls, Zar (Zcm ls)] := by
  refine Zbu (fn := Tryd.f44) (nt := 31) rfl rfl rfl rfl ?_
  refine Zaj 1 (H' := [rfB (slv 1 0 n n), txB ls, hole]) rfl ?_
  refine Ze (Zf (Zb (.slice none 0 0) (Za (Zc (Ze (Zf (Zb (.slice none 0 0) (Za (Zc (Ze (Ze ?_)))))))))))
  refine Zb5 (Zbo.nilTmp (i := 3) (b := 2) true 2 rfl (by decide) rfl) ?_
  refine Zf (Zd (pt 0 0) (Ze7 (p := pt 0 0) (v := pt 0 0) ?_))
  refine Zal (p := pt 0 0) (v := slv 1 0 n n) rfl rfl rfl rfl ?_
  refine Zc3 (p := slv 1 0 n n) (v := Iv (n : Nat)) (Zd (Iv 0) (Za (Zc (Z5 ?_))))
  refine Zck (fun x : Nat × (List Field) => match x with | (i, acc) => [pt 0 0, dead, .slice none 0 0, slv 2 0 i i, dead, dead, dead, dead, pt 0 0, pt 0 0, slv 1 0 n n, Iv (n : Nat), Iv (i : Nat)]) (fun x : Nat × (List Field) => match x with | (i, acc) => [rfB (slv 1 0 n n), txB ls, rwB cFd acc]) (fun x : Nat × (List Field) => match x with | (i, acc) => acc ++ Zgt i (ls.drop i) = Zgt 0 ls ∧ i ≤ n ∧ acc.length = i) (fun x : Nat × (List Field) => match x with | (i, acc) => n - i) (0, []) ⟨rfl, by omega, rfl⟩ ?_ ?_
  · refine Zam (n := 3) rfl ?_ (by kernel_rfl) (by kernel_rfl)
    repeat (first | exact trivial | refine ⟨.inl rfl, ?_⟩ | refine ⟨.inr ⟨rfl, rfl⟩, ?_⟩ | refine ⟨.inr ⟨congrArg (Value.int .i64) (by first | omega | (dsimp only; omega)), rfl⟩, ?_⟩)
  rintro ⟨i, acc⟩ ⟨hR, hi, ha⟩
  dsimp only at *
  refine Zaj 2 (H' := [rfB (slv 1 0 n n), txB ls, rwB cFd acc, hole, hole]) rfl ?_
  refine Ze (Zf ?_)
  by_cases h1 : (i : Nat) < (n : Nat)
  refine Zj (vx := Iv (i : Nat)) (vy := Iv (n : Nat)) rfl rfl (.bool true) rfl rfl (Zdd (by omega)) ?_
  refine Za (Zc (Ze (Zv rfl (Z0 (Zc (Ze (Z5 (Ze (Zf (Zd (Iv (i : Nat)) ?_))))))))))
  refine Zbs (b := 1) (o := 0) (j := i) (m := n) (c := n) (sz := 1) (i := (i : Nat)) (k := .i64) rfl rfl rfl rfl rfl (by omega) (by omega) (by omega) ?_
  refine Zal (p := pt 1 i) (v := .string (ls.getD i ⟨#[]⟩)) rfl rfl rfl (Z4j rfl rfl rfl (by have := hn; omega)) ?_
  refine Zb (Iv (i : Nat)) (Zb (.string (ls.getD i ⟨#[]⟩)) (Za (Zc (Zf (Zd (slv 2 0 i i) (Zd (Iv (i : Nat)) ?_))))))
  refine Zj (vx := Iv (i : Nat)) (vy := Iv 1) rfl rfl (Iv ((i : Nat) + 1)) rfl rfl (Za0 (by omega) (by omega) (by omega)) ?_
  refine Zd (.string (ls.getD i ⟨#[]⟩)) ?_
  refine Zbm (vs := [(0, Iv ((i : Nat) + 1)), (1, .string (ls.getD i ⟨#[]⟩))]) (v := fdV (⟨(i : Nat) + 1, (ls.getD i ⟨#[]⟩)⟩ : Field)) rfl rfl rfl (by kernel_rfl) ?_
  refine Zel (vs := [(0, fdV (⟨(i : Nat) + 1, (ls.getD i ⟨#[]⟩)⟩ : Field))]) (v := slv 3 0 1 1) (blk := rwB cFd [(⟨(i : Nat) + 1, (ls.getD i ⟨#[]⟩)⟩ : Field)]) (nid := 3) (H' := [rfB (slv 1 0 n n), txB ls, rwB cFd acc, rwB cFd [(⟨(i : Nat) + 1, (ls.getD i ⟨#[]⟩)⟩ : Field)], hole]) rfl rfl rfl (by kernel_rfl) (by kernel_rfl) ?_
  have hl2 : (acc ++ [(⟨(i : Nat) + 1, (ls.getD i ⟨#[]⟩)⟩ : Field)]).length = i + 1 := by have := ha; have := (rfl : _ = 1); first | (rw [List.length_append]; omega) | (simp; omega) | simp
  refine Zc9 (p := slv 2 0 i i) (q := slv 3 0 1 1) (v := slv 2 0 (i + 1) (i + 1)) (b := 2) (blk := rwB cFd (acc ++ [(⟨(i : Nat) + 1, (ls.getD i ⟨#[]⟩)⟩ : Field)])) (H' := [rfB (slv 1 0 n n), txB ls, rwB cFd (acc ++ [(⟨(i : Nat) + 1, (ls.getD i ⟨#[]⟩)⟩ : Field)]), rwB cFd [(⟨(i : Nat) + 1, (ls.getD i ⟨#[]⟩)⟩ : Field)], hole]) rfl rfl rfl (.inl ⟨_, rfl⟩) rfl rfl (Zsf cFd (by_ := 24) (k := 1) (n' := i + 1) (ms := [(⟨(i : Nat) + 1, (ls.getD i ⟨#[]⟩)⟩ : Field)]) (fun _ => rfl) rfl rfl (by kernel_rfl) rfl rfl (by have := ha; omega) (by omega) (by decide) (by omega)) rfl (by kernel_rfl) ?_
  refine Zb (slv 2 0 (i + 1) (i + 1)) (Za (Zz (Zc (Zf ?_))))
  refine Zj (vx := Iv (i : Nat)) (vy := Iv 1) rfl rfl (Iv ((i : Nat) + 1)) rfl rfl (Za0 (by omega) (by omega) (by omega)) ?_
  refine Zd (Iv ((i : Nat) + 1)) (Za ?_)
  refine Zas ⟨((i + 1), (acc ++ [(⟨(i : Nat) + 1, (ls.getD i ⟨#[]⟩)⟩ : Field)])), ⟨Zz1 hR (by omega), by omega, by rw [List.length_append, ha]; rfl⟩, by show n - (i + 1) < n - i; omega, ?_⟩
  refine Zam (n := 3) rfl ?_ (by kernel_rfl) (by kernel_rfl)
  repeat (first | exact trivial | refine ⟨.inl rfl, ?_⟩ | refine ⟨.inr ⟨rfl, rfl⟩, ?_⟩ | refine ⟨.inr ⟨congrArg (Value.int .i64) (by first | omega | (dsimp only; omega)), rfl⟩, ?_⟩)
  refine Zj (vx := Iv (i : Nat)) (vy := Iv (n : Nat)) rfl rfl (.bool false) rfl rfl (Zcw (by omega)) ?_
  refine Za (Zc (Ze (Zt rfl (Zbn (Zat (Za3 (Zay rfl (Zc (Ze (Zf (Zd (slv 2 0 i i) ?_)))))))))))
  refine Zab (e := [some (2, 0)]) (nid := 3) (Z0o (G := G) acc i i ha (by omega) (by omega)) (vals := [slv 2 0 i i]) (v := .tuple #[slv 3 0 ((Z4 acc 0 []).1.length) ((Z4 acc 0 []).1.length), Iv ((Z4 acc 0 []).2)]) (H' := [rfB (slv 1 0 n n), txB ls, rwB cFd acc, Zar ((Z4 acc 0 []).1), hole]) rfl rfl rfl rfl rfl rfl rfl ⟨⟨⟨rfl, rfl, rfl, by first | omega | exact Nat.le_refl _, by first | omega | exact Nat.le_refl _⟩, trivial⟩, ⟨(Zg2 rfl), trivial⟩, rfl, rfl, rfl⟩ (by kernel_rfl) (by kernel_rfl) ?_
  refine Zd (.tuple #[slv 3 0 ((Z4 acc 0 []).1.length) ((Z4 acc 0 []).1.length), Iv ((Z4 acc 0 []).2)]) (Zq (vs := #[slv 3 0 ((Z4 acc 0 []).1.length) ((Z4 acc 0 []).1.length), Iv ((Z4 acc 0 []).2)]) (v := slv 3 0 ((Z4 acc 0 []).1.length) ((Z4 acc 0 []).1.length)) (Zq (vs := #[slv 3 0 ((Z4 acc 0 []).1.length) ((Z4 acc 0 []).1.length), Iv ((Z4 acc 0 []).2)]) (v := Iv ((Z4 acc 0 []).2)) (Zb (slv 3 0 ((Z4 acc 0 []).1.length) ((Z4 acc 0 []).1.length)) (Zb (Iv ((Z4 acc 0 []).2)) (Za (Zc (Ze (Zf (Zd (slv 3 0 ((Z4 acc 0 []).1.length) ((Z4 acc 0 []).1.length)) (Zb (slv 3 0 ((Z4 acc 0 []).1.length) ((Z4 acc 0 []).1.length)) (Za (Zc (Zs (Zu ?_))))))))))))))
  have hR' : acc = Zgt 0 ls := by rw [← hR, List.drop_of_length_le (by omega)]; simp [Zgt]
  rw [show Zcm ls = (Z4 acc 0 []).1 from by rw [hR']; rfl]
  exact Zbb [0, 1, 3] (v := slv 3 0 ((Z4 acc 0 []).1.length) ((Z4 acc 0 []).1.length)) rfl (by kernel_rfl) rfl rfl (by decide) (by simp [Zbe, rfB, txB, Zar, Zlu, Zfz]) ⟨rfl, rfl, rfl, by first | omega | exact Nat.le_refl _ | exact Nat.zero_le _ | (dsimp only; omega), by first | omega | exact Nat.le_refl _ | exact Nat.zero_le _ | (dsimp only; omega)⟩
theorem Zv1 (h : Head) : Z9 Tryd.prog G 23 [Zb2 h] [] (.tuple #[slv 0 0 (Zad h).1.length (Zad h).1.length, Iv (Zad h).2]) [Zar (Zad h).1] := by
  refine Zbu (fn := Tryd.f23) (nt := 34) rfl rfl rfl rfl ?_
  refine Zaj 4 (H' := [hole, hole, hole, hole]) rfl ?_
  refine Ze (Zf (Zci (v := Zb2 h) (b := bxB 36 (Zcq h)) (nid := 0) (H' := [bxB 36 (Zcq h), hole, hole, hole]) (Zb (.slice none 0 0) (Zb (Iv 0) (Za (Zc (Ze (Ze (Zf (Zn (p := pt 0 0) (v := Zb2 h) ?_))))))))))
  refine Zp (Zo8 (G := G) h) (vals := [Zb2 h]) (res' := Iv (Za7 h)) rfl rfl rfl rfl rfl rfl ?_
  refine Zb (Iv (Za7 h)) (Za (Zc (Ze (Zf (Zd (Iv (Za7 h)) ?_)))))
  by_cases h1 : (Za7 h) ≠ 0
  refine Zj (vx := Iv (Za7 h)) (vy := Iv 0) rfl rfl (.bool true) rfl rfl (Zek (by omega)) ?_
  refine Za (Zc (Zv rfl (Ze (Zf (Zd (Iv (Za7 h)) (Zb (.slice none 0 0) (Zb (Iv (Za7 h)) (Za (Zc ?_)))))))))
  refine Zb5 (Zbo.nilTmp (i := 2) (b := 1) true 1 rfl (by decide) rfl) ?_
  refine Zs (Zaa (Zu ?_))
  rw [show Zad h = ([], (Za7 h)) from if_neg (by omega)]
  exact Zbb [1] (v := .tuple #[slv 1 0 0 0, Iv (Za7 h)]) rfl (by kernel_rfl) rfl rfl (by decide) (by simp [Zbe, Zar]) ⟨⟨rfl, rfl, rfl, by first | omega | exact Nat.le_refl _ | exact Nat.zero_le _ | (dsimp only; omega), by first | omega | exact Nat.le_refl _ | exact Nat.zero_le _ | (dsimp only; omega)⟩, rfl, trivial⟩
  refine Zj (vx := Iv (Za7 h)) (vy := Iv 0) rfl rfl (.bool false) rfl rfl (Zd6 (by omega)) ?_
  refine Za (Zc (Zt rfl (Z0 (Zc (Ze (Zf (Zai (b := rfB (.slice none 0 0)) (nid := 1) (H' := [bxB 36 (Zcq h), rfB (.slice none 0 0), hole, hole]) (Za (Zc (Ze ?_))))))))))
  have hc := Zzc (h := h) (by omega)
  refine Zb5 (Zbo.nilCell (k := 1) (j := 0) (b := 2) true 1 rfl (by decide) rfl (by show 0 < 1; decide) rfl rfl) ?_
  refine Zf ?_
  refine Zn6 (vs := [pt 1 0]) (ws := []) rfl rfl rfl rfl rfl ?_
  refine Zb (.func (.func 42) #[pt 1 0] #[]) (Za (Zc (Ze (Zf (Zd (.func (.func 42) #[pt 1 0] #[]) (Zi (b := 0) (o := 0) (n := 0) (o' := 0) (Zn (p := pt 0 0) (v := Iv h.region) ?_)))))))
  refine Zc2 (e := [some (1, 0), some (2, 0)]) (nid := 0) (Zkl (G := G) [] 0 h.region rfl (by omega) (by omega) (by omega)) (vals := [pt 1 0, Iv h.region]) (v := .tuple #[]) (H' := [bxB 36 (Zcq h), rfB (slv 2 0 1 1), txB ([] ++ [(Zo h.region).1]), hole]) rfl rfl rfl rfl rfl rfl ⟨⟨⟨rfl, rfl⟩, rfl, trivial⟩, ⟨(Zaw rfl rfl rfl rfl), (Zaw rfl rfl rfl rfl), trivial⟩, rfl, rfl, rfl, Nat.le_refl _⟩ (by kernel_rfl) rfl (by kernel_rfl) ?_
  refine Za (Zc (Ze (Zf (Zd (.func (.func 42) #[pt 1 0] #[]) (Zi (b := 0) (o := 0) (n := 1) (o' := 1) (Zn (p := pt 0 1) (v := Iv h.epoch) ?_))))))
  refine Zc2 (e := [some (1, 0), some (2, 0)]) (nid := 0) (Zkl (G := G) ([] ++ [(Zo h.region).1]) 1 h.epoch rfl (by omega) (by omega) (by omega)) (vals := [pt 1 0, Iv h.epoch]) (v := .tuple #[]) (H' := [bxB 36 (Zcq h), rfB (slv 2 0 2 2), txB (([] ++ [(Zo h.region).1]) ++ [(Zo h.epoch).1]), hole]) rfl rfl rfl rfl rfl rfl ⟨⟨⟨rfl, rfl⟩, rfl, trivial⟩, ⟨(Zaw rfl rfl rfl rfl), (Zaw rfl rfl rfl rfl), trivial⟩, rfl, rfl, rfl, Nat.le_refl _⟩ (by kernel_rfl) rfl (by kernel_rfl) ?_
  refine Za (Zc (Ze (Zf (Zd (.func (.func 42) #[pt 1 0] #[]) (Zi (b := 0) (o := 0) (n := 2) (o' := 2) (Zn (p := pt 0 2) (v := Iv h.size) ?_))))))
  refine Zc2 (e := [some (1, 0), some (2, 0)]) (nid := 0) (Zkl (G := G) (([] ++ [(Zo h.region).1]) ++ [(Zo h.epoch).1]) 2 h.size rfl (by omega) (by omega) (by omega)) (vals := [pt 1 0, Iv h.size]) (v := .tuple #[]) (H' := [bxB 36 (Zcq h), rfB (slv 2 0 3 3), txB ((([] ++ [(Zo h.region).1]) ++ [(Zo h.epoch).1]) ++ [(Zo h.size).1]), hole]) rfl rfl rfl rfl rfl rfl ⟨⟨⟨rfl, rfl⟩, rfl, trivial⟩, ⟨(Zaw rfl rfl rfl rfl), (Zaw rfl rfl rfl rfl), trivial⟩, rfl, rfl, rfl, Nat.le_refl _⟩ (by kernel_rfl) rfl (by kernel_rfl) ?_
  refine Za (Zc (Ze (Zf (Zi (b := 0) (o := 0) (n := 3) (o' := 3) ?_))))
  refine Zda (p := pt 0 3) (vl := none) (vh := none) (v := slv 0 3 32 32) rfl rfl rfl rfl rfl rfl ?_
  refine Zfs (p := slv 0 3 32 32) (v := .string (Zk (dgL h.root))) rfl rfl rfl (Zd9 (l := (dgL h.root)) rfl rfl rfl rfl (of_decide_eq_true (by kernel_rfl)) (by kernel_rfl)) ?_
  refine Zc2 (e := [some (1, 0), some (2, 0)]) (nid := 0) (Zqj (G := G) ((([] ++ [(Zo h.region).1]) ++ [(Zo h.epoch).1]) ++ [(Zo h.size).1]) 3 (Zk (dgL h.root)) rfl (by omega)) (vals := [pt 1 0, .string (Zk (dgL h.root))]) (v := .tuple #[]) (H' := [bxB 36 (Zcq h), rfB (slv 2 0 4 4), txB (((([] ++ [(Zo h.region).1]) ++ [(Zo h.epoch).1]) ++ [(Zo h.size).1]) ++ [(Zk (dgL h.root))]), hole]) rfl rfl rfl rfl rfl rfl ⟨⟨⟨rfl, rfl⟩, rfl, trivial⟩, ⟨(Zaw rfl rfl rfl rfl), (Zaw rfl rfl rfl rfl), trivial⟩, rfl, rfl, rfl, Nat.le_refl _⟩ (by kernel_rfl) rfl (by kernel_rfl) ?_
  refine Za (Zc (Ze (Zf (Zd (.func (.func 42) #[pt 1 0] #[]) (Zi (b := 0) (o := 0) (n := 35) (o' := 35) (Zn (p := pt 0 35) (v := Iv h.tick) ?_))))))
  refine Zc2 (e := [some (1, 0), some (2, 0)]) (nid := 0) (Zkl (G := G) (((([] ++ [(Zo h.region).1]) ++ [(Zo h.epoch).1]) ++ [(Zo h.size).1]) ++ [(Zk (dgL h.root))]) 4 h.tick rfl (by omega) (by omega) (by omega)) (vals := [pt 1 0, Iv h.tick]) (v := .tuple #[]) (H' := [bxB 36 (Zcq h), rfB (slv 2 0 5 5), txB ((((([] ++ [(Zo h.region).1]) ++ [(Zo h.epoch).1]) ++ [(Zo h.size).1]) ++ [(Zk (dgL h.root))]) ++ [(Zo h.tick).1]), hole]) rfl rfl rfl rfl rfl rfl ⟨⟨⟨rfl, rfl⟩, rfl, trivial⟩, ⟨(Zaw rfl rfl rfl rfl), (Zaw rfl rfl rfl rfl), trivial⟩, rfl, rfl, rfl, Nat.le_refl _⟩ (by kernel_rfl) rfl (by kernel_rfl) ?_
  refine Za (Zc (Ze (Zf ?_)))
  refine Zc2 (e := [some (1, 0), some (2, 0)]) (nid := 3) (Zts (G := G) ((((([] ++ [(Zo h.region).1]) ++ [(Zo h.epoch).1]) ++ [(Zo h.size).1]) ++ [(Zk (dgL h.root))]) ++ [(Zo h.tick).1]) 5 rfl (by omega)) (vals := [pt 1 0]) (v := slv 3 0 ((Zcm ((((([] ++ [(Zo h.region).1]) ++ [(Zo h.epoch).1]) ++ [(Zo h.size).1]) ++ [(Zk (dgL h.root))]) ++ [(Zo h.tick).1])).length) ((Zcm ((((([] ++ [(Zo h.region).1]) ++ [(Zo h.epoch).1]) ++ [(Zo h.size).1]) ++ [(Zk (dgL h.root))]) ++ [(Zo h.tick).1])).length)) (H' := [bxB 36 (Zcq h), rfB (slv 2 0 5 5), txB ((((([] ++ [(Zo h.region).1]) ++ [(Zo h.epoch).1]) ++ [(Zo h.size).1]) ++ [(Zk (dgL h.root))]) ++ [(Zo h.tick).1]), Zar (Zcm ((((([] ++ [(Zo h.region).1]) ++ [(Zo h.epoch).1]) ++ [(Zo h.size).1]) ++ [(Zk (dgL h.root))]) ++ [(Zo h.tick).1]))]) rfl rfl rfl rfl rfl rfl ⟨⟨⟨rfl, rfl⟩, trivial⟩, ⟨(Zaw rfl rfl rfl rfl), (Zaw rfl rfl rfl rfl), trivial⟩, rfl, rfl, rfl, Nat.le_refl _⟩ rfl rfl (by kernel_rfl) ?_
  refine Zb (slv 3 0 ((Zcm ((((([] ++ [(Zo h.region).1]) ++ [(Zo h.epoch).1]) ++ [(Zo h.size).1]) ++ [(Zk (dgL h.root))]) ++ [(Zo h.tick).1])).length) ((Zcm ((((([] ++ [(Zo h.region).1]) ++ [(Zo h.epoch).1]) ++ [(Zo h.size).1]) ++ [(Zk (dgL h.root))]) ++ [(Zo h.tick).1])).length)) ?_
  refine Zb (Iv 0) (Za (Zc (Zs (Zu ?_))))
  rw [show Zad h = ((Zcm ((((([] ++ [(Zo h.region).1]) ++ [(Zo h.epoch).1]) ++ [(Zo h.size).1]) ++ [(Zk (dgL h.root))]) ++ [(Zo h.tick).1])), 0) from if_pos (by omega)]
  exact Zbb [3] (v := .tuple #[slv 3 0 ((Zcm ((((([] ++ [(Zo h.region).1]) ++ [(Zo h.epoch).1]) ++ [(Zo h.size).1]) ++ [(Zk (dgL h.root))]) ++ [(Zo h.tick).1])).length) ((Zcm ((((([] ++ [(Zo h.region).1]) ++ [(Zo h.epoch).1]) ++ [(Zo h.size).1]) ++ [(Zk (dgL h.root))]) ++ [(Zo h.tick).1])).length), Iv 0]) rfl (by kernel_rfl) rfl rfl (by decide) (by simp [Zbe, Zar]) ⟨⟨rfl, rfl, rfl, by first | omega | exact Nat.le_refl _ | exact Nat.zero_le _ | (dsimp only; omega), by first | omega | exact Nat.le_refl _ | exact Nat.zero_le _ | (dsimp only; omega)⟩, rfl, trivial⟩
end Go.Flat
