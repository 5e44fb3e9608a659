/- Walks. -/
import Derived.Test.YtlnggiomppkjmaaDoorH3
set_option linter.unusedVariables false
set_option linter.unusedSimpArgs false
set_option maxRecDepth 20000
namespace Go.Flat
open Go.Proofs
variable {G : Glob}
structure Head where
  region : Int
  epoch : Int
  size : Int
  root : D
  tick : Int
structure Signed where
  head : Head
  node : Int
  tag : D
def Zft (h : Head) : List Value := [.int .i64 h.region, .int .i64 h.epoch, .int .i64 h.size] ++ Zah w8 32 h.root ++ [.int .i64 h.tick]
def Zhn (h : Head) : Value := .agg (Zft h).toArray
def Zd4 (s : Signed) : List Value := Zft s.head ++ [.int .i64 s.node] ++ Zah w8 32 s.tag
def Zf9 (s : Signed) : Value := .agg (Zd4 s).toArray
def Zgg : Nat → List ByteArray → List Field
  | _, [] => []
  | k, x :: l => ⟨(k : Int) + 1, x⟩ :: Zgg (k + 1) l
def Zcu (ls : List ByteArray) : Bs := (Z3 (Zgg 0 ls) 0 []).1
theorem Zx1 {ls : List ByteArray} {i : Nat} {acc R : List Field} (hR : acc ++ Zgg i (ls.drop i) = R) (hi : i < ls.length) : (acc ++ [⟨(i : Int) + 1, ls.getD i ⟨#[]⟩⟩]) ++ Zgg (i + 1) (ls.drop (i + 1)) = R := by
 have e : ls.drop i = ls.getD i ⟨#[]⟩ :: ls.drop (i + 1) := by
  rw [List.drop_eq_getElem_cons hi, List.getD_eq_getElem?_getD, List.getElem?_eq_getElem hi]; rfl
 rw [e, Zgg] at hR
 rw [← hR, List.append_assoc]; rfl
def Zcn (n low high : Int) : Bool :=
  if low ≤ n then (if n ≤ high then true else
  false) else
  false
theorem Zcv (n low high : Int) : Z6 Tryd.prog G 81 [Iv n, Iv low, Iv high] [] (.bool (Zcn n low high)) [] := by
 refine Zbh (fn := Tryd.f81) (nt := 15) rfl rfl rfl rfl ?_
 refine Zf (Zg (Zb (.bool false) (Za (Zc (Zf (Zg (Zd (Iv n) (Zd (Iv low) ?_))))))))
 by_cases h1 : low ≤ n
 refine Zl (vx := Iv n) (vy := Iv low) rfl rfl (.bool true) rfl rfl (Zoe (by omega)) ?_
 refine Zd (.bool true) (Zd (Iv n) (Zd (Iv high) ?_))
 by_cases h2 : n ≤ high
 refine Zl (vx := Iv n) (vy := Iv high) rfl rfl (.bool true) rfl rfl (Zlg (by omega)) ?_
 refine Zk (.bool true) (Zb (.bool true) (Za (Zc (Zr (Zt ?_)))))
 rw [show Zcn n low high = true from by unfold Zcn; rw [if_pos h1, if_pos h2]]
 exact Zm (v := .bool true) rfl rfl rfl (by kernel_rfl) rfl
 refine Zl (vx := Iv n) (vy := Iv high) rfl rfl (.bool false) rfl rfl (Zlf (by omega)) ?_
 refine Zk (.bool false) (Zb (.bool false) (Za (Zc (Zr (Zt ?_)))))
 rw [show Zcn n low high = false from by unfold Zcn; rw [if_pos h1, if_neg h2]]
 exact Zm (v := .bool false) rfl rfl rfl (by kernel_rfl) rfl
 refine Zl (vx := Iv n) (vy := Iv low) rfl rfl (.bool false) rfl rfl (Zod (by omega)) ?_
 refine Zd (.bool false) (Ze (Ze (Ze (Zk (.bool false) (Zb (.bool false) (Za (Zc (Zr (Zt ?_)))))))))
 rw [show Zcn n low high = false from by unfold Zcn; rw [if_neg h1]]
 exact Zm (v := .bool false) rfl rfl rfl (by kernel_rfl) rfl
theorem Zbq {n low high : Int} (h1 : low ≤ n) (h2 : n ≤ high) : Zcn n low high = true := by unfold Zcn; rw [if_pos h1, if_pos h2]
theorem Zac {n low high : Int} (h : n < low ∨ high < n) : Zcn n low high = false := by
 unfold Zcn
 by_cases h1 : low ≤ n
 ·rw [if_pos h1, if_neg (by omega)]
 ·rw [if_neg h1]
def Za5 (h : Head) : Int :=
  if 1 ≤ h.region then (if h.region ≤ 5 then (if 1 ≤ h.epoch then (if h.epoch ≤ 900000000 then (if 0 ≤ h.size then (if h.size ≤ 100000 then (if 0 ≤ h.tick then (if h.tick ≤ 900000000 then 0 else
  70) else
  70) else
  70) else
  70) else
  70) else
  70) else
  70) else
  70
theorem Zrr (h : Head) : Z6 Tryd.prog G 76 [Zhn h] [] (Iv (Za5 h)) [] := by
 refine Zbh (fn := Tryd.f76) (nt := 21) rfl rfl rfl rfl ?_
 refine Zaf 1 (H' := [hole]) rfl ?_
 refine Zf (Zg (Zb7 (v := Zhn h) (b := bxB 36 (Zft h)) (nid := 0) (H' := [bxB 36 (Zft h)]) (Zb (Iv 0) (Za (Zc (Zf (Zf (Zg (Zh (b := 0) (o := 0) (n := 0) (o' := 0) (Zn (p := pt 0 0) (v := Iv h.region) ?_))))))))))
 by_cases h1 : 1 ≤ h.region
 by_cases h2 : h.region ≤ 5
 refine Zs ((Zcv (G := G) h.region 1 5).res (congrArg Value.bool (Zbq (by omega) (by omega)))) (vals := [Iv h.region, Iv 1, Iv 5]) (res' := .bool true) rfl rfl rfl rfl rfl rfl ?_
 refine Zd (.bool true) (Zh (b := 0) (o := 0) (n := 1) (o' := 1) (Zn (p := pt 0 1) (v := Iv h.epoch) ?_))
 by_cases h3 : 1 ≤ h.epoch
 by_cases h4 : h.epoch ≤ 900000000
 refine Zs ((Zcv (G := G) h.epoch 1 900000000).res (congrArg Value.bool (Zbq (by omega) (by omega)))) (vals := [Iv h.epoch, Iv 1, Iv 900000000]) (res' := .bool true) rfl rfl rfl rfl rfl rfl ?_
 refine Zk (.bool true) (Zd (.bool true) (Zh (b := 0) (o := 0) (n := 2) (o' := 2) (Zn (p := pt 0 2) (v := Iv h.size) ?_)))
 by_cases h5 : 0 ≤ h.size
 by_cases h6 : h.size ≤ 100000
 refine Zs ((Zcv (G := G) h.size 0 100000).res (congrArg Value.bool (Zbq (by omega) (by omega)))) (vals := [Iv h.size, Iv 0, Iv 100000]) (res' := .bool true) rfl rfl rfl rfl rfl rfl ?_
 refine Zk (.bool true) (Zd (.bool true) (Zh (b := 0) (o := 0) (n := 35) (o' := 35) (Zn (p := pt 0 35) (v := Iv h.tick) ?_)))
 by_cases h7 : 0 ≤ h.tick
 by_cases h8 : h.tick ≤ 900000000
 refine Zs ((Zcv (G := G) h.tick 0 900000000).res (congrArg Value.bool (Zbq (by omega) (by omega)))) (vals := [Iv h.tick, Iv 0, Iv 900000000]) (res' := .bool true) rfl rfl rfl rfl rfl rfl ?_
 refine Zk (.bool true) (Za (Zc (Zy rfl (Zf (Zg (Zb (Iv 0) (Za (Zc (Zr (Z2 (Zt ?_)))))))))))
 rw [show Za5 h = 0 from by unfold Za5; rw [if_pos h1, if_pos h2, if_pos h3, if_pos h4, if_pos h5, if_pos h6, if_pos h7, if_pos h8]]
 exact Zm (v := Iv 0) rfl rfl rfl (by kernel_rfl) rfl
 refine Zs ((Zcv (G := G) h.tick 0 900000000).res (congrArg Value.bool (Zac (by omega)))) (vals := [Iv h.tick, Iv 0, Iv 900000000]) (res' := .bool false) rfl rfl rfl rfl rfl rfl ?_
 refine Zk (.bool false) (Za (Zc (Zu rfl (Zz (Zc (Zf (Zg (Zb (Iv 70) (Za (Zc (Zr (Zt ?_))))))))))))
 rw [show Za5 h = 70 from by unfold Za5; rw [if_pos h1, if_pos h2, if_pos h3, if_pos h4, if_pos h5, if_pos h6, if_pos h7, if_neg h8]]
 exact Zm (v := Iv 70) rfl rfl rfl (by kernel_rfl) rfl
 refine Zs ((Zcv (G := G) h.tick 0 900000000).res (congrArg Value.bool (Zac (by omega)))) (vals := [Iv h.tick, Iv 0, Iv 900000000]) (res' := .bool false) rfl rfl rfl rfl rfl rfl ?_
 refine Zk (.bool false) (Za (Zc (Zu rfl (Zz (Zc (Zf (Zg (Zb (Iv 70) (Za (Zc (Zr (Zt ?_))))))))))))
 rw [show Za5 h = 70 from by unfold Za5; rw [if_pos h1, if_pos h2, if_pos h3, if_pos h4, if_pos h5, if_pos h6, if_neg h7]]
 exact Zm (v := Iv 70) rfl rfl rfl (by kernel_rfl) rfl
 refine Zs ((Zcv (G := G) h.size 0 100000).res (congrArg Value.bool (Zac (by omega)))) (vals := [Iv h.size, Iv 0, Iv 100000]) (res' := .bool false) rfl rfl rfl rfl rfl rfl ?_
 refine Zk (.bool false) (Zd (.bool false) (Ze (Ze (Ze (Zk (.bool false) (Za (Zc (Zu rfl (Zz (Zc (Zf (Zg (Zb (Iv 70) (Za (Zc (Zr (Zt ?_)))))))))))))))))
 rw [show Za5 h = 70 from by unfold Za5; rw [if_pos h1, if_pos h2, if_pos h3, if_pos h4, if_pos h5, if_neg h6]]
 exact Zm (v := Iv 70) rfl rfl rfl (by kernel_rfl) rfl
 refine Zs ((Zcv (G := G) h.size 0 100000).res (congrArg Value.bool (Zac (by omega)))) (vals := [Iv h.size, Iv 0, Iv 100000]) (res' := .bool false) rfl rfl rfl rfl rfl rfl ?_
 refine Zk (.bool false) (Zd (.bool false) (Ze (Ze (Ze (Zk (.bool false) (Za (Zc (Zu rfl (Zz (Zc (Zf (Zg (Zb (Iv 70) (Za (Zc (Zr (Zt ?_)))))))))))))))))
 rw [show Za5 h = 70 from by unfold Za5; rw [if_pos h1, if_pos h2, if_pos h3, if_pos h4, if_neg h5]]
 exact Zm (v := Iv 70) rfl rfl rfl (by kernel_rfl) rfl
 refine Zs ((Zcv (G := G) h.epoch 1 900000000).res (congrArg Value.bool (Zac (by omega)))) (vals := [Iv h.epoch, Iv 1, Iv 900000000]) (res' := .bool false) rfl rfl rfl rfl rfl rfl ?_
 refine Zk (.bool false) (Zd (.bool false) (Ze (Ze (Ze (Zk (.bool false) (Zd (.bool false) (Ze (Ze (Ze (Zk (.bool false) (Za (Zc (Zu rfl (Zz (Zc (Zf (Zg (Zb (Iv 70) (Za (Zc (Zr (Zt ?_))))))))))))))))))))))
 rw [show Za5 h = 70 from by unfold Za5; rw [if_pos h1, if_pos h2, if_pos h3, if_neg h4]]
 exact Zm (v := Iv 70) rfl rfl rfl (by kernel_rfl) rfl
 refine Zs ((Zcv (G := G) h.epoch 1 900000000).res (congrArg Value.bool (Zac (by omega)))) (vals := [Iv h.epoch, Iv 1, Iv 900000000]) (res' := .bool false) rfl rfl rfl rfl rfl rfl ?_
 refine Zk (.bool false) (Zd (.bool false) (Ze (Ze (Ze (Zk (.bool false) (Zd (.bool false) (Ze (Ze (Ze (Zk (.bool false) (Za (Zc (Zu rfl (Zz (Zc (Zf (Zg (Zb (Iv 70) (Za (Zc (Zr (Zt ?_))))))))))))))))))))))
 rw [show Za5 h = 70 from by unfold Za5; rw [if_pos h1, if_pos h2, if_neg h3]]
 exact Zm (v := Iv 70) rfl rfl rfl (by kernel_rfl) rfl
 refine Zs ((Zcv (G := G) h.region 1 5).res (congrArg Value.bool (Zac (by omega)))) (vals := [Iv h.region, Iv 1, Iv 5]) (res' := .bool false) rfl rfl rfl rfl rfl rfl ?_
 refine Zd (.bool false) (Ze (Ze (Ze (Zk (.bool false) (Zd (.bool false) (Ze (Ze (Ze (Zk (.bool false) (Zd (.bool false) (Ze (Ze (Ze (Zk (.bool false) (Za (Zc (Zu rfl (Zz (Zc (Zf (Zg (Zb (Iv 70) (Za (Zc (Zr (Zt ?_))))))))))))))))))))))))))
 rw [show Za5 h = 70 from by unfold Za5; rw [if_pos h1, if_neg h2]]
 exact Zm (v := Iv 70) rfl rfl rfl (by kernel_rfl) rfl
 refine Zs ((Zcv (G := G) h.region 1 5).res (congrArg Value.bool (Zac (by omega)))) (vals := [Iv h.region, Iv 1, Iv 5]) (res' := .bool false) rfl rfl rfl rfl rfl rfl ?_
 refine Zd (.bool false) (Ze (Ze (Ze (Zk (.bool false) (Zd (.bool false) (Ze (Ze (Ze (Zk (.bool false) (Zd (.bool false) (Ze (Ze (Ze (Zk (.bool false) (Za (Zc (Zu rfl (Zz (Zc (Zf (Zg (Zb (Iv 70) (Za (Zc (Zr (Zt ?_))))))))))))))))))))))))))
 rw [show Za5 h = 70 from by unfold Za5; rw [if_neg h1]]
 exact Zm (v := Iv 70) rfl rfl rfl (by kernel_rfl) rfl
def Zkn (h : Head) : Prop := (1 ≤ h.region ∧ h.region ≤ 5) ∧ (1 ≤ h.epoch ∧ h.epoch ≤ 900000000) ∧ (0 ≤ h.size ∧ h.size ≤ 100000) ∧ (0 ≤ h.tick ∧ h.tick ≤ 900000000)
instance (h : Head) : Decidable (Zkn h) := inferInstanceAs (Decidable (_ ∧ _))
theorem Zh4 (h : Head) : Za5 h = if Zkn h then 0 else 70 := by
 unfold Za5 Zkn
 repeat (first | split | omega)
theorem Zww {h : Head} (hc : Za5 h = 0) : (1 ≤ h.region ∧ h.region ≤ 5) ∧ (1 ≤ h.epoch ∧ h.epoch ≤ 900000000) ∧ (0 ≤ h.size ∧ h.size ≤ 100000) ∧ (0 ≤ h.tick ∧ h.tick ≤ 900000000) := by
 rw [Zh4] at hc
 split at hc
 ·assumption
 ·omega
def Zh6 (h : Head) : List ByteArray := [(Zp h.region).1, (Zp h.epoch).1, (Zp h.size).1, Zo (dgL h.root), (Zp h.tick).1]
def Zb0 (h : Head) : Bs × Int := if Za5 h = 0 then (Zcu (Zh6 h), 0) else ([], Za5 h)
theorem Zo0 (ls : List ByteArray) (n : Nat) (x : ByteArray) (hn : ls.length = n) (hb : n ≤ 1000) : Z6 Tryd.prog G 91 [pt 0 0, .string x] [rfB (slv 1 0 n n), txB ls] (.tuple #[]) [rfB (slv 1 0 (n + 1) (n + 1)), txB (ls ++ [x])] := by
  refine Zbh (fn := Tryd.f91) (nt := 12) rfl rfl rfl rfl ?_
  refine Zaf 1 (H' := [rfB (slv 1 0 n n), txB ls, hole]) rfl ?_
  refine Zg (Zd (pt 0 0) (Zd (pt 0 0) (Zeq (p := pt 0 0) (v := pt 0 0) ?_)))
  refine Zal (p := pt 0 0) (v := slv 1 0 n n) rfl rfl rfl rfl ?_
  refine Zd (.string x) ?_
  refine Zep (vs := [(0, .string x)]) (v := slv 2 0 1 1) (blk := txB [x]) (nid := 2) (H' := [rfB (slv 1 0 n n), txB ls, txB [x]]) rfl rfl rfl (by kernel_rfl) (by kernel_rfl) ?_
  have hl2 : (ls ++ [x]).length = n + 1 := by have := hn; have := (rfl : _ = 1); first | (rw [List.length_append]; omega) | (simp; omega) | simp
  refine Zc6 (p := slv 1 0 n n) (q := slv 2 0 1 1) (v := slv 1 0 (n + 1) (n + 1)) (b := 1) (blk := txB (ls ++ [x])) (H' := [rfB (dead), txB (ls ++ [x]), txB [x]]) rfl rfl rfl (.inl ⟨_, rfl⟩) rfl rfl (Zvn (by_ := 16) (k := 1) (n' := n + 1) (ms := [x]) rfl rfl (by kernel_rfl) rfl (by have := hn; omega) (by omega) (by decide) (by omega)) rfl (by kernel_rfl) ?_
  refine Zeq (p := pt 0 0) (v := pt 0 0) (Zab (p := pt 0 0) (v := slv 1 0 (n + 1) (n + 1)) (b := 0) (blk := rfB (slv 1 0 (n + 1) (n + 1))) (H' := [rfB (slv 1 0 (n + 1) (n + 1)), txB (ls ++ [x]), txB [x]]) (Za (Zkr ?_)))
  exact Zm (v := .tuple #[]) rfl rfl rfl (by simp [Zbe, rfB, txB, Zib, Zeg]) trivial
theorem Zjn (ls : List ByteArray) (n : Nat) (x : Int) (hn : ls.length = n) (hb : n ≤ 1000) (hl : -9223372036854775808 ≤ x) (hh : x ≤ 9223372036854775807) : Z6 Tryd.prog G 92 [pt 0 0, Iv x] [rfB (slv 1 0 n n), txB ls] (.tuple #[]) [rfB (slv 1 0 (n + 1) (n + 1)), txB (ls ++ [(Zp x).1])] := by
  refine Zbh (fn := Tryd.f92) (nt := 19) rfl rfl rfl rfl ?_
  refine Zaf 1 (H' := [rfB (slv 1 0 n n), txB ls, hole]) rfl ?_
  refine Zf (Zg (Zd (Iv x) ?_))
  refine Zs (Zpr (G := G) x (by omega) (by omega)) (vals := [Iv x]) (res' := .tuple #[.string ((Zp x).1), Iv ((Zp x).2)]) rfl rfl rfl rfl rfl (by kernel_rfl) ?_
  refine Zd (.tuple #[.string ((Zp x).1), Iv ((Zp x).2)]) (Z1 (vs := #[.string ((Zp x).1), Iv ((Zp x).2)]) (v := .string ((Zp x).1)) (Z1 (vs := #[.string ((Zp x).1), Iv ((Zp x).2)]) (v := Iv ((Zp x).2)) (Zb (.string ((Zp x).1)) (Zb (Iv ((Zp x).2)) (Za (Zc (Zg (Zd (pt 0 0) (Zd (pt 0 0) (Zeq (p := pt 0 0) (v := pt 0 0) ?_))))))))))
  refine Zal (p := pt 0 0) (v := slv 1 0 n n) rfl rfl rfl rfl ?_
  refine Zd (.string ((Zp x).1)) ?_
  refine Zep (vs := [(0, .string ((Zp x).1))]) (v := slv 2 0 1 1) (blk := txB [(Zp x).1]) (nid := 2) (H' := [rfB (slv 1 0 n n), txB ls, txB [(Zp x).1]]) rfl rfl rfl (by kernel_rfl) (by kernel_rfl) ?_
  have hl2 : (ls ++ [(Zp x).1]).length = n + 1 := by have := hn; have := (rfl : _ = 1); first | (rw [List.length_append]; omega) | (simp; omega) | simp
  refine Zc6 (p := slv 1 0 n n) (q := slv 2 0 1 1) (v := slv 1 0 (n + 1) (n + 1)) (b := 1) (blk := txB (ls ++ [(Zp x).1])) (H' := [rfB (dead), txB (ls ++ [(Zp x).1]), txB [(Zp x).1]]) rfl rfl rfl (.inl ⟨_, rfl⟩) rfl rfl (Zvn (by_ := 16) (k := 1) (n' := n + 1) (ms := [(Zp x).1]) rfl rfl (by kernel_rfl) rfl (by have := hn; omega) (by omega) (by decide) (by omega)) rfl (by kernel_rfl) ?_
  refine Zeq (p := pt 0 0) (v := pt 0 0) (Zab (p := pt 0 0) (v := slv 1 0 (n + 1) (n + 1)) (b := 0) (blk := rfB (slv 1 0 (n + 1) (n + 1))) (H' := [rfB (slv 1 0 (n + 1) (n + 1)), txB (ls ++ [(Zp x).1]), txB [(Zp x).1]]) (Za (Zkr ?_)))
  exact Zm (v := .tuple #[]) rfl rfl rfl (by simp [Zbe, rfB, txB, Zib, Zeg]) trivial
theorem Zr2 (ls : List ByteArray) (n : Nat) (hn : ls.length = n) (hb : n ≤ 1000) : Z6 Tryd.prog G 93 [pt 0 0] [rfB (slv 1 0 n n), txB ls] (slv 2 0 (Zcu ls).length (Zcu ls).length) [rfB (slv 1 0 n n), txB ls, Zao (Zcu ls)] := by
  refine Zbh (fn := Tryd.f93) (nt := 31) rfl rfl rfl rfl ?_
  refine Zaf 1 (H' := [rfB (slv 1 0 n n), txB ls, hole]) rfl ?_
  refine Zf (Zg (Zb (.slice none 0 0) (Za (Zc (Zf (Zg (Zb (.slice none 0 0) (Za (Zc (Zf (Zf ?_)))))))))))
  refine Zca (Za7.nilTmp (i := 3) (b := 2) true 2 rfl (by decide) rfl) ?_
  refine Zg (Zd (pt 0 0) (Zeq (p := pt 0 0) (v := pt 0 0) ?_))
  refine Zal (p := pt 0 0) (v := slv 1 0 n n) rfl rfl rfl rfl ?_
  refine Zaw (p := slv 1 0 n n) (v := Iv (n : Nat)) (Zd (Iv 0) (Za (Zc (Z8 ?_))))
  refine Zbt (fun x : Nat × (List Field) => match x with | (i, acc) => [pt 0 0, dead, .slice none 0 0, slv 2 0 i i, dead, dead, dead, dead, pt 0 0, pt 0 0, slv 1 0 n n, Iv (n : Nat), Iv (i : Nat)]) (fun x : Nat × (List Field) => match x with | (i, acc) => [rfB (slv 1 0 n n), txB ls, rwB cFd acc]) (fun x : Nat × (List Field) => match x with | (i, acc) => acc ++ Zgg i (ls.drop i) = Zgg 0 ls ∧ i ≤ n ∧ acc.length = i) (fun x : Nat × (List Field) => match x with | (i, acc) => n - i) (0, []) ⟨rfl, by omega, rfl⟩ ?_ ?_
  · refine Zaj (n := 3) rfl ?_ (by kernel_rfl) (by kernel_rfl)
    repeat (first | exact trivial | refine ⟨.inl rfl, ?_⟩ | refine ⟨.inr ⟨rfl, rfl⟩, ?_⟩ | refine ⟨.inr ⟨congrArg (Value.int .i64) (by first | omega | (dsimp only; omega)), rfl⟩, ?_⟩)
  rintro ⟨i, acc⟩ ⟨hR, hi, ha⟩
  dsimp only at *
  refine Zaf 2 (H' := [rfB (slv 1 0 n n), txB ls, rwB cFd acc, hole, hole]) rfl ?_
  refine Zf (Zg ?_)
  by_cases h1 : (i : Nat) < (n : Nat)
  refine Zl (vx := Iv (i : Nat)) (vy := Iv (n : Nat)) rfl rfl (.bool true) rfl rfl (Zck (by omega)) ?_
  refine Za (Zc (Zf (Zy rfl (Zz (Zc (Zf (Z8 (Zf (Zg (Zd (Iv (i : Nat)) ?_))))))))))
  refine Zbo (b := 1) (o := 0) (j := i) (m := n) (c := n) (sz := 1) (i := (i : Nat)) (k := .i64) rfl rfl rfl rfl rfl (by omega) (by omega) (by omega) ?_
  refine Zal (p := pt 1 i) (v := .string (ls.getD i ⟨#[]⟩)) rfl rfl rfl (Z2l rfl rfl rfl (by have := hn; omega)) ?_
  refine Zb (Iv (i : Nat)) (Zb (.string (ls.getD i ⟨#[]⟩)) (Za (Zc (Zg (Zd (slv 2 0 i i) (Zd (Iv (i : Nat)) ?_))))))
  refine Zl (vx := Iv (i : Nat)) (vy := Iv 1) rfl rfl (Iv ((i : Nat) + 1)) rfl rfl (Zak (by omega) (by omega) (by omega)) ?_
  refine Zd (.string (ls.getD i ⟨#[]⟩)) ?_
  refine Zdb (vs := [(0, Iv ((i : Nat) + 1)), (1, .string (ls.getD i ⟨#[]⟩))]) (v := fdV (⟨(i : Nat) + 1, (ls.getD i ⟨#[]⟩)⟩ : Field)) rfl rfl rfl (by kernel_rfl) ?_
  refine Zep (vs := [(0, fdV (⟨(i : Nat) + 1, (ls.getD i ⟨#[]⟩)⟩ : Field))]) (v := slv 3 0 1 1) (blk := rwB cFd [(⟨(i : Nat) + 1, (ls.getD i ⟨#[]⟩)⟩ : Field)]) (nid := 3) (H' := [rfB (slv 1 0 n n), txB ls, rwB cFd acc, rwB cFd [(⟨(i : Nat) + 1, (ls.getD i ⟨#[]⟩)⟩ : Field)], hole]) rfl rfl rfl (by kernel_rfl) (by kernel_rfl) ?_
  have hl2 : (acc ++ [(⟨(i : Nat) + 1, (ls.getD i ⟨#[]⟩)⟩ : Field)]).length = i + 1 := by have := ha; have := (rfl : _ = 1); first | (rw [List.length_append]; omega) | (simp; omega) | simp
  refine Zc6 (p := slv 2 0 i i) (q := slv 3 0 1 1) (v := slv 2 0 (i + 1) (i + 1)) (b := 2) (blk := rwB cFd (acc ++ [(⟨(i : Nat) + 1, (ls.getD i ⟨#[]⟩)⟩ : Field)])) (H' := [rfB (slv 1 0 n n), txB ls, rwB cFd (acc ++ [(⟨(i : Nat) + 1, (ls.getD i ⟨#[]⟩)⟩ : Field)]), rwB cFd [(⟨(i : Nat) + 1, (ls.getD i ⟨#[]⟩)⟩ : Field)], hole]) rfl rfl rfl (.inl ⟨_, rfl⟩) rfl rfl (Zig cFd (by_ := 24) (k := 1) (n' := i + 1) (ms := [(⟨(i : Nat) + 1, (ls.getD i ⟨#[]⟩)⟩ : Field)]) (fun _ => rfl) rfl rfl (by kernel_rfl) rfl rfl (by have := ha; omega) (by omega) (by decide) (by omega)) rfl (by kernel_rfl) ?_
  refine Zb (slv 2 0 (i + 1) (i + 1)) (Za (Z7 (Zc (Zg ?_))))
  refine Zl (vx := Iv (i : Nat)) (vy := Iv 1) rfl rfl (Iv ((i : Nat) + 1)) rfl rfl (Zak (by omega) (by omega) (by omega)) ?_
  refine Zd (Iv ((i : Nat) + 1)) (Za ?_)
  refine Zag ⟨((i + 1), (acc ++ [(⟨(i : Nat) + 1, (ls.getD i ⟨#[]⟩)⟩ : Field)])), ⟨Zx1 hR (by omega), by omega, by rw [List.length_append, ha]; rfl⟩, by show n - (i + 1) < n - i; omega, ?_⟩
  refine Zaj (n := 3) rfl ?_ (by kernel_rfl) (by kernel_rfl)
  repeat (first | exact trivial | refine ⟨.inl rfl, ?_⟩ | refine ⟨.inr ⟨rfl, rfl⟩, ?_⟩ | refine ⟨.inr ⟨congrArg (Value.int .i64) (by first | omega | (dsimp only; omega)), rfl⟩, ?_⟩)
  refine Zl (vx := Iv (i : Nat)) (vy := Iv (n : Nat)) rfl rfl (.bool false) rfl rfl (Zcd (by omega)) ?_
  refine Za (Zc (Zf (Zu rfl (Zbm (Zaq (Zax (Zav rfl (Zc (Zf (Zg (Zd (slv 2 0 i i) ?_)))))))))))
  refine Z5 (e := [some (2, 0)]) (nid := 3) (Zye (G := G) acc i i ha (by omega) (by omega)) (vals := [slv 2 0 i i]) (v := .tuple #[slv 3 0 ((Z3 acc 0 []).1.length) ((Z3 acc 0 []).1.length), Iv ((Z3 acc 0 []).2)]) (H' := [rfB (slv 1 0 n n), txB ls, rwB cFd acc, Zao ((Z3 acc 0 []).1), hole]) rfl rfl rfl rfl rfl rfl rfl ⟨⟨⟨rfl, rfl, rfl, by first | omega | exact Nat.le_refl _, by first | omega | exact Nat.le_refl _⟩, trivial⟩, ⟨(Zb8 rfl), trivial⟩, rfl, rfl, rfl⟩ (by kernel_rfl) (by kernel_rfl) ?_
  refine Zd (.tuple #[slv 3 0 ((Z3 acc 0 []).1.length) ((Z3 acc 0 []).1.length), Iv ((Z3 acc 0 []).2)]) (Z1 (vs := #[slv 3 0 ((Z3 acc 0 []).1.length) ((Z3 acc 0 []).1.length), Iv ((Z3 acc 0 []).2)]) (v := slv 3 0 ((Z3 acc 0 []).1.length) ((Z3 acc 0 []).1.length)) (Z1 (vs := #[slv 3 0 ((Z3 acc 0 []).1.length) ((Z3 acc 0 []).1.length), Iv ((Z3 acc 0 []).2)]) (v := Iv ((Z3 acc 0 []).2)) (Zb (slv 3 0 ((Z3 acc 0 []).1.length) ((Z3 acc 0 []).1.length)) (Zb (Iv ((Z3 acc 0 []).2)) (Za (Zc (Zf (Zg (Zd (slv 3 0 ((Z3 acc 0 []).1.length) ((Z3 acc 0 []).1.length)) (Zb (slv 3 0 ((Z3 acc 0 []).1.length) ((Z3 acc 0 []).1.length)) (Za (Zc (Zr (Zt ?_))))))))))))))
  have hR' : acc = Zgg 0 ls := by rw [← hR, List.drop_of_length_le (by omega)]; simp [Zgg]
  rw [show Zcu ls = (Z3 acc 0 []).1 from by rw [hR']; rfl]
  exact Zbc [0, 1, 3] (v := slv 3 0 ((Z3 acc 0 []).1.length) ((Z3 acc 0 []).1.length)) rfl (by kernel_rfl) rfl rfl (by decide) (by simp [Zbe, rfB, txB, Zao, Zib, Zeg]) ⟨rfl, rfl, rfl, by first | omega | exact Nat.le_refl _ | exact Nat.zero_le _ | (dsimp only; omega), by first | omega | exact Nat.le_refl _ | exact Nat.zero_le _ | (dsimp only; omega)⟩
theorem Z3y (h : Head) : Z6 Tryd.prog G 90 [Zhn h] [] (.tuple #[slv 0 0 (Zb0 h).1.length (Zb0 h).1.length, Iv (Zb0 h).2]) [Zao (Zb0 h).1] := by
  refine Zbh (fn := Tryd.f90) (nt := 34) rfl rfl rfl rfl ?_
  refine Zaf 4 (H' := [hole, hole, hole, hole]) rfl ?_
  refine Zf (Zg (Zb7 (v := Zhn h) (b := bxB 36 (Zft h)) (nid := 0) (H' := [bxB 36 (Zft h), hole, hole, hole]) (Zb (.slice none 0 0) (Zb (Iv 0) (Za (Zc (Zf (Zf (Zg (Zn (p := pt 0 0) (v := Zhn h) ?_))))))))))
  refine Zs (Zrr (G := G) h) (vals := [Zhn h]) (res' := Iv (Za5 h)) rfl rfl rfl rfl rfl rfl ?_
  refine Zb (Iv (Za5 h)) (Za (Zc (Zf (Zg (Zd (Iv (Za5 h)) ?_)))))
  by_cases h1 : (Za5 h) ≠ 0
  refine Zl (vx := Iv (Za5 h)) (vy := Iv 0) rfl rfl (.bool true) rfl rfl (Zgf (by omega)) ?_
  refine Za (Zc (Zy rfl (Zf (Zg (Zd (Iv (Za5 h)) (Zb (.slice none 0 0) (Zb (Iv (Za5 h)) (Za (Zc ?_)))))))))
  refine Zca (Za7.nilTmp (i := 2) (b := 1) true 1 rfl (by decide) rfl) ?_
  refine Zr (Z2 (Zt ?_))
  rw [show Zb0 h = ([], (Za5 h)) from if_neg (by omega)]
  exact Zbc [1] (v := .tuple #[slv 1 0 0 0, Iv (Za5 h)]) rfl (by kernel_rfl) rfl rfl (by decide) (by simp [Zbe, Zao]) ⟨⟨rfl, rfl, rfl, by first | omega | exact Nat.le_refl _ | exact Nat.zero_le _ | (dsimp only; omega), by first | omega | exact Nat.le_refl _ | exact Nat.zero_le _ | (dsimp only; omega)⟩, rfl, trivial⟩
  refine Zl (vx := Iv (Za5 h)) (vy := Iv 0) rfl rfl (.bool false) rfl rfl (Zfw (by omega)) ?_
  refine Za (Zc (Zu rfl (Zz (Zc (Zf (Zg (Za9 (b := rfB (.slice none 0 0)) (nid := 1) (H' := [bxB 36 (Zft h), rfB (.slice none 0 0), hole, hole]) (Za (Zc (Zf ?_))))))))))
  have hc := Zww (h := h) (by omega)
  refine Zca (Za7.nilCell (k := 1) (j := 0) (b := 2) true 1 rfl (by decide) rfl (by show 0 < 1; decide) rfl rfl) ?_
  refine Zg ?_
  refine Zgw (vs := [pt 1 0]) (ws := []) rfl rfl rfl rfl rfl ?_
  refine Zb (.func (.func 92) #[pt 1 0] #[]) (Za (Zc (Zf (Zg (Zd (.func (.func 92) #[pt 1 0] #[]) (Zh (b := 0) (o := 0) (n := 0) (o' := 0) (Zn (p := pt 0 0) (v := Iv h.region) ?_)))))))
  refine Zcp (e := [some (1, 0), some (2, 0)]) (nid := 0) (Zjn (G := G) [] 0 h.region rfl (by omega) (by omega) (by omega)) (vals := [pt 1 0, Iv h.region]) (v := .tuple #[]) (H' := [bxB 36 (Zft h), rfB (slv 2 0 1 1), txB ([] ++ [(Zp h.region).1]), hole]) rfl rfl rfl rfl rfl rfl ⟨⟨⟨rfl, rfl⟩, rfl, trivial⟩, ⟨(Zad rfl rfl rfl rfl), (Zad rfl rfl rfl rfl), trivial⟩, rfl, rfl, rfl, Nat.le_refl _⟩ (by kernel_rfl) rfl (by kernel_rfl) ?_
  refine Za (Zc (Zf (Zg (Zd (.func (.func 92) #[pt 1 0] #[]) (Zh (b := 0) (o := 0) (n := 1) (o' := 1) (Zn (p := pt 0 1) (v := Iv h.epoch) ?_))))))
  refine Zcp (e := [some (1, 0), some (2, 0)]) (nid := 0) (Zjn (G := G) ([] ++ [(Zp h.region).1]) 1 h.epoch rfl (by omega) (by omega) (by omega)) (vals := [pt 1 0, Iv h.epoch]) (v := .tuple #[]) (H' := [bxB 36 (Zft h), rfB (slv 2 0 2 2), txB (([] ++ [(Zp h.region).1]) ++ [(Zp h.epoch).1]), hole]) rfl rfl rfl rfl rfl rfl ⟨⟨⟨rfl, rfl⟩, rfl, trivial⟩, ⟨(Zad rfl rfl rfl rfl), (Zad rfl rfl rfl rfl), trivial⟩, rfl, rfl, rfl, Nat.le_refl _⟩ (by kernel_rfl) rfl (by kernel_rfl) ?_
  refine Za (Zc (Zf (Zg (Zd (.func (.func 92) #[pt 1 0] #[]) (Zh (b := 0) (o := 0) (n := 2) (o' := 2) (Zn (p := pt 0 2) (v := Iv h.size) ?_))))))
  refine Zcp (e := [some (1, 0), some (2, 0)]) (nid := 0) (Zjn (G := G) (([] ++ [(Zp h.region).1]) ++ [(Zp h.epoch).1]) 2 h.size rfl (by omega) (by omega) (by omega)) (vals := [pt 1 0, Iv h.size]) (v := .tuple #[]) (H' := [bxB 36 (Zft h), rfB (slv 2 0 3 3), txB ((([] ++ [(Zp h.region).1]) ++ [(Zp h.epoch).1]) ++ [(Zp h.size).1]), hole]) rfl rfl rfl rfl rfl rfl ⟨⟨⟨rfl, rfl⟩, rfl, trivial⟩, ⟨(Zad rfl rfl rfl rfl), (Zad rfl rfl rfl rfl), trivial⟩, rfl, rfl, rfl, Nat.le_refl _⟩ (by kernel_rfl) rfl (by kernel_rfl) ?_
  refine Za (Zc (Zf (Zg (Zh (b := 0) (o := 0) (n := 3) (o' := 3) ?_))))
  refine Zcz (p := pt 0 3) (vl := none) (vh := none) (v := slv 0 3 32 32) rfl rfl rfl rfl rfl rfl ?_
  refine Zjm (p := slv 0 3 32 32) (v := .string (Zo (dgL h.root))) rfl rfl rfl (Zha (l := (dgL h.root)) rfl rfl rfl rfl (of_decide_eq_true (by kernel_rfl)) (by kernel_rfl)) ?_
  refine Zcp (e := [some (1, 0), some (2, 0)]) (nid := 0) (Zo0 (G := G) ((([] ++ [(Zp h.region).1]) ++ [(Zp h.epoch).1]) ++ [(Zp h.size).1]) 3 (Zo (dgL h.root)) rfl (by omega)) (vals := [pt 1 0, .string (Zo (dgL h.root))]) (v := .tuple #[]) (H' := [bxB 36 (Zft h), rfB (slv 2 0 4 4), txB (((([] ++ [(Zp h.region).1]) ++ [(Zp h.epoch).1]) ++ [(Zp h.size).1]) ++ [(Zo (dgL h.root))]), hole]) rfl rfl rfl rfl rfl rfl ⟨⟨⟨rfl, rfl⟩, rfl, trivial⟩, ⟨(Zad rfl rfl rfl rfl), (Zad rfl rfl rfl rfl), trivial⟩, rfl, rfl, rfl, Nat.le_refl _⟩ (by kernel_rfl) rfl (by kernel_rfl) ?_
  refine Za (Zc (Zf (Zg (Zd (.func (.func 92) #[pt 1 0] #[]) (Zh (b := 0) (o := 0) (n := 35) (o' := 35) (Zn (p := pt 0 35) (v := Iv h.tick) ?_))))))
  refine Zcp (e := [some (1, 0), some (2, 0)]) (nid := 0) (Zjn (G := G) (((([] ++ [(Zp h.region).1]) ++ [(Zp h.epoch).1]) ++ [(Zp h.size).1]) ++ [(Zo (dgL h.root))]) 4 h.tick rfl (by omega) (by omega) (by omega)) (vals := [pt 1 0, Iv h.tick]) (v := .tuple #[]) (H' := [bxB 36 (Zft h), rfB (slv 2 0 5 5), txB ((((([] ++ [(Zp h.region).1]) ++ [(Zp h.epoch).1]) ++ [(Zp h.size).1]) ++ [(Zo (dgL h.root))]) ++ [(Zp h.tick).1]), hole]) rfl rfl rfl rfl rfl rfl ⟨⟨⟨rfl, rfl⟩, rfl, trivial⟩, ⟨(Zad rfl rfl rfl rfl), (Zad rfl rfl rfl rfl), trivial⟩, rfl, rfl, rfl, Nat.le_refl _⟩ (by kernel_rfl) rfl (by kernel_rfl) ?_
  refine Za (Zc (Zf (Zg ?_)))
  refine Zcp (e := [some (1, 0), some (2, 0)]) (nid := 3) (Zr2 (G := G) ((((([] ++ [(Zp h.region).1]) ++ [(Zp h.epoch).1]) ++ [(Zp h.size).1]) ++ [(Zo (dgL h.root))]) ++ [(Zp h.tick).1]) 5 rfl (by omega)) (vals := [pt 1 0]) (v := slv 3 0 ((Zcu ((((([] ++ [(Zp h.region).1]) ++ [(Zp h.epoch).1]) ++ [(Zp h.size).1]) ++ [(Zo (dgL h.root))]) ++ [(Zp h.tick).1])).length) ((Zcu ((((([] ++ [(Zp h.region).1]) ++ [(Zp h.epoch).1]) ++ [(Zp h.size).1]) ++ [(Zo (dgL h.root))]) ++ [(Zp h.tick).1])).length)) (H' := [bxB 36 (Zft h), rfB (slv 2 0 5 5), txB ((((([] ++ [(Zp h.region).1]) ++ [(Zp h.epoch).1]) ++ [(Zp h.size).1]) ++ [(Zo (dgL h.root))]) ++ [(Zp h.tick).1]), Zao (Zcu ((((([] ++ [(Zp h.region).1]) ++ [(Zp h.epoch).1]) ++ [(Zp h.size).1]) ++ [(Zo (dgL h.root))]) ++ [(Zp h.tick).1]))]) rfl rfl rfl rfl rfl rfl ⟨⟨⟨rfl, rfl⟩, trivial⟩, ⟨(Zad rfl rfl rfl rfl), (Zad rfl rfl rfl rfl), trivial⟩, rfl, rfl, rfl, Nat.le_refl _⟩ rfl rfl (by kernel_rfl) ?_
  refine Zb (slv 3 0 ((Zcu ((((([] ++ [(Zp h.region).1]) ++ [(Zp h.epoch).1]) ++ [(Zp h.size).1]) ++ [(Zo (dgL h.root))]) ++ [(Zp h.tick).1])).length) ((Zcu ((((([] ++ [(Zp h.region).1]) ++ [(Zp h.epoch).1]) ++ [(Zp h.size).1]) ++ [(Zo (dgL h.root))]) ++ [(Zp h.tick).1])).length)) ?_
  refine Zb (Iv 0) (Za (Zc (Zr (Zt ?_))))
  rw [show Zb0 h = ((Zcu ((((([] ++ [(Zp h.region).1]) ++ [(Zp h.epoch).1]) ++ [(Zp h.size).1]) ++ [(Zo (dgL h.root))]) ++ [(Zp h.tick).1])), 0) from if_pos (by omega)]
  exact Zbc [3] (v := .tuple #[slv 3 0 ((Zcu ((((([] ++ [(Zp h.region).1]) ++ [(Zp h.epoch).1]) ++ [(Zp h.size).1]) ++ [(Zo (dgL h.root))]) ++ [(Zp h.tick).1])).length) ((Zcu ((((([] ++ [(Zp h.region).1]) ++ [(Zp h.epoch).1]) ++ [(Zp h.size).1]) ++ [(Zo (dgL h.root))]) ++ [(Zp h.tick).1])).length), Iv 0]) rfl (by kernel_rfl) rfl rfl (by decide) (by simp [Zbe, Zao]) ⟨⟨rfl, rfl, rfl, by first | omega | exact Nat.le_refl _ | exact Nat.zero_le _ | (dsimp only; omega), by first | omega | exact Nat.le_refl _ | exact Nat.zero_le _ | (dsimp only; omega)⟩, rfl, trivial⟩
end Go.Flat
namespace Go.Flat
open Go.Proofs
variable {G : Glob}
def Z6w (key : D) : D := fun i => if i < 32 then key i else 0
def Z58 (c : D) (x : BitVec 8) (j : Nat) : D := fun i => if i < j then c i ^^^ x else c i
def Zyt (key : D) (x : BitVec 8) : ByteArray := Zo (Zmt 64 (Z58 (Z6w key) x 64))
def Zzz (kk : Nat → BitVec 32) (key : D) (s : ByteArray) : D := Zct kk (Zd2 [Zyt key 92#8, Zo (dgL (Zct kk (Zd2 [Zyt key 54#8, s])))])
def Z6g (a b : D) : Nat → BitVec 8
  | 0 => 0
  | j + 1 => Z6g a b j ||| (a j ^^^ b j)
def Zzk (kk : Nat → BitVec 32) (master : D) (region node : Int) : D × Int := if (1 ≤ region ∧ region ≤ 5) ∧ (1 ≤ node ∧ node ≤ 3) then (Zzz kk master (Zo [75#8, BitVec.ofInt 8 region, BitVec.ofInt 8 node]), 0) else (dz, 50)
def Z4c (kk : Nat → BitVec 32) (master : D) (region node : Int) (s : ByteArray) (t : D) : Int :=
  if ((Zzk kk master region node).2) ≠ 0 then ((Zzk kk master region node).2) else
  if Zfx 32 (Zzz kk ((Zzk kk master region node).1) s) t = true then 0 else
  72
end Go.Flat
namespace Go.Flat
open Go.Proofs
variable {G : Glob}
def Zz1 : ByteArray := ⟨#[104, 101, 97, 100, 32]⟩
theorem Z0f (h : Head) : (Zb0 h).2 = Za5 h := by
 unfold Zb0
 split
 ·rename_i h0; exact h0.symm
 ·rfl
def Zmw : List Field → Nat
  | [] => 0
  | f :: l => f.data.size + 4 + Zmw l
theorem Zg5 : ∀ (fs : List Field) (last : Int) (acc : Bs), (Z3 fs last acc).1.length ≤ acc.length + Zmw fs
 | [], _, acc => by simp [Z3, Zmw]
 | f :: fs, last, acc => by
  rw [Z3]
  split
  ·have := Zg5 fs f.tag (acc ++ Zim f)
   rw [List.length_append, Zob] at this
   simp only [Zmw]; omega
  ·simp
theorem Zs1 : ∀ (f n a : Nat) (b : D), (Zmm f n a b).length ≤ 8
 | 0, n, a, b => by rw [Zmm, List.length_drop, Zlt]; omega
 | f + 1, n, a, b => by
  rw [Zmm]
  split
  ·rw [List.length_drop, Zlt]; omega
  ·exact Zs1 f _ _ _
theorem Za4 (n : Int) : (Zp n).1.size ≤ 8 := by
 unfold Zp
 split
 ·rw [Zcc]; exact Zs1 _ _ _ _
 ·show 0 ≤ 8; omega
theorem Z0d (h : Head) : (Zb0 h).1.length ≤ 100 := by
 unfold Zb0
 split
 ·have := Zg5 (Zgg 0 (Zh6 h)) 0 []
  simp only [Zh6, Zgg, Zmw, Zcc, Zju, List.length_nil] at this
  have h1 := Za4 h.region
  have h2 := Za4 h.epoch
  have h3 := Za4 h.size
  have h4 := Za4 h.tick
  show (Z3 (Zgg 0 (Zh6 h)) 0 []).1.length ≤ 100
  simp only [Zh6, Zgg]
  omega
 ·simp
def Zap (s : Signed) : Bs × Int := if Za5 s.head = 0 ∧ 1 ≤ s.node ∧ s.node ≤ 3 then (Zcu [Zo (Zb0 s.head).1, (Zp s.node).1, Zo (dgL s.tag)], 0) else ([], 70)
def Z7k (kk : Nat → BitVec 32) (master : D) (h : Head) (node : Int) : Signed × Int :=
  if ((Zb0 h).2) ≠ 0 then ((⟨(⟨0, 0, 0, dz, 0⟩ : Head), 0, dz⟩ : Signed), ((Zb0 h).2)) else
  if ((Zzk kk master h.region node).2) ≠ 0 then ((⟨(⟨0, 0, 0, dz, 0⟩ : Head), 0, dz⟩ : Signed), 70) else
  ((⟨h, node, (Zzz kk ((Zzk kk master h.region node).1) (Zz1 ++ (Zo ((Zb0 h).1))))⟩ : Signed), 0)
def Z6c (kk : Nat → BitVec 32) (master : D) (s : Signed) : Int :=
  if ((Zb0 s.head).2) ≠ 0 then 70 else
  if 1 ≤ s.node then (if s.node ≤ 3 then (Z4c kk master s.head.region s.node (Zz1 ++ (Zo ((Zb0 s.head).1))) s.tag) else
  70) else
  70
theorem Zqs (s : Signed) : Z6 Tryd.prog G 86 [Zf9 s] [] (.tuple #[slv 0 0 (Zap s).1.length (Zap s).1.length, Iv (Zap s).2]) [Zao (Zap s).1] := by
  refine Zbh (fn := Tryd.f86) (nt := 32) rfl rfl rfl rfl ?_
  refine Zaf 5 (H' := [hole, hole, hole, hole, hole]) rfl ?_
  refine Zf (Zg (Zb7 (v := Zf9 s) (b := bxB 69 (Zd4 s)) (nid := 0) (H' := [bxB 69 (Zd4 s), hole, hole, hole, hole]) (Zb (.slice none 0 0) (Zb (Iv 0) (Za (Zc (Zf (Zg (Zh (b := 0) (o := 0) (n := 0) (o' := 0) (Zn (p := pt 0 0) (v := Zhn s.head) ?_))))))))))
  have hpe6 := Z0f s.head
  have hpl6 := Z0d s.head
  refine Z5 (e := []) (nid := 1) (Z3y (G := G) s.head) (vals := [Zhn s.head]) (v := .tuple #[slv 1 0 ((Zb0 s.head).1.length) ((Zb0 s.head).1.length), Iv ((Zb0 s.head).2)]) (H' := [bxB 69 (Zd4 s), Zao ((Zb0 s.head).1), hole, hole, hole]) rfl rfl rfl rfl rfl rfl rfl ⟨⟨rfl, trivial⟩, trivial, rfl, rfl, rfl⟩ (by kernel_rfl) (by kernel_rfl) ?_
  refine Zd (.tuple #[slv 1 0 ((Zb0 s.head).1.length) ((Zb0 s.head).1.length), Iv ((Zb0 s.head).2)]) (Z1 (vs := #[slv 1 0 ((Zb0 s.head).1.length) ((Zb0 s.head).1.length), Iv ((Zb0 s.head).2)]) (v := slv 1 0 ((Zb0 s.head).1.length) ((Zb0 s.head).1.length)) (Z1 (vs := #[slv 1 0 ((Zb0 s.head).1.length) ((Zb0 s.head).1.length), Iv ((Zb0 s.head).2)]) (v := Iv ((Zb0 s.head).2)) (Zb (slv 1 0 ((Zb0 s.head).1.length) ((Zb0 s.head).1.length)) (Zb (Iv ((Zb0 s.head).2)) (Za (Zc (Zf (Zf (Zg (Zd (Iv ((Zb0 s.head).2)) ?_))))))))))
  by_cases h1 : ((Zb0 s.head).2) ≠ 0
  refine Zl (vx := Iv ((Zb0 s.head).2)) (vy := Iv 0) rfl rfl (.bool true) rfl rfl (Zgf (by omega)) ?_
  refine Zd (.bool true) (Ze (Ze (Ze (Ze (Zk (.bool true) (Za (Zc (Zy rfl (Zf (Zg (Zb (.slice none 0 0) (Zb (Iv 70) (Za (Zc ?_))))))))))))))
  refine Zca (Za7.nilTmp (i := 2) (b := 2) true 1 rfl (by decide) rfl) ?_
  refine Zr (Z2 (Zt ?_))
  rw [show Zap s = ([], 70) from if_neg (by omega)]
  exact Zbc [2] (v := .tuple #[slv 2 0 0 0, Iv 70]) rfl (by kernel_rfl) rfl rfl (by decide) (by simp [Zbe, Zao]) ⟨⟨rfl, rfl, rfl, by first | omega | exact Nat.le_refl _ | exact Nat.zero_le _ | (dsimp only; omega), by first | omega | exact Nat.le_refl _ | exact Nat.zero_le _ | (dsimp only; omega)⟩, rfl, trivial⟩
  refine Zl (vx := Iv ((Zb0 s.head).2)) (vy := Iv 0) rfl rfl (.bool false) rfl rfl (Zfw (by omega)) ?_
  refine Zd (.bool false) (Zh (b := 0) (o := 0) (n := 36) (o' := 36) (Zn (p := pt 0 36) (v := Iv s.node) ?_))
  by_cases h2 : 1 ≤ s.node
  by_cases h3 : s.node ≤ 3
  refine Zs ((Zcv (G := G) s.node 1 3).res (congrArg Value.bool (Zbq (by omega) (by omega)))) (vals := [Iv s.node, Iv 1, Iv 3]) (res' := .bool true) rfl rfl rfl rfl rfl rfl ?_
  refine Zfb (vx := .bool true) rfl rfl (.bool false) rfl Zcq ?_
  refine Zk (.bool false) (Za (Zc (Zu rfl (Zz (Zc (Zf (Zg (Za9 (b := rfB (.slice none 0 0)) (nid := 2) (H' := [bxB 69 (Zd4 s), Zao ((Zb0 s.head).1), rfB (.slice none 0 0), hole, hole]) (Za (Zc (Zf ?_)))))))))))
  refine Zca (Za7.nilCell (k := 2) (j := 0) (b := 3) true 1 rfl (by decide) rfl (by show 0 < 1; decide) rfl rfl) ?_
  refine Zg (Zd (slv 1 0 ((Zb0 s.head).1.length) ((Zb0 s.head).1.length)) ?_)
  refine Zjm (p := slv 1 0 ((Zb0 s.head).1.length) ((Zb0 s.head).1.length)) (v := .string (Zo ((Zb0 s.head).1))) rfl rfl rfl (Zie rfl rfl rfl rfl rfl (by omega)) ?_
  refine Zcp (e := [some (2, 0), some (3, 0)]) (nid := 0) (Zo0 (G := G) [] 0 (Zo ((Zb0 s.head).1)) rfl (by omega)) (vals := [pt 2 0, .string (Zo ((Zb0 s.head).1))]) (v := .tuple #[]) (H' := [bxB 69 (Zd4 s), Zao ((Zb0 s.head).1), rfB (slv 3 0 1 1), txB ([] ++ [(Zo ((Zb0 s.head).1))]), hole]) rfl rfl rfl rfl rfl rfl ⟨⟨⟨rfl, rfl⟩, rfl, trivial⟩, ⟨(Zad rfl rfl rfl rfl), (Zad rfl rfl rfl rfl), trivial⟩, rfl, rfl, rfl, Nat.le_refl _⟩ (by kernel_rfl) rfl (by kernel_rfl) ?_
  refine Za (Zc (Zf (Zg (Zh (b := 0) (o := 0) (n := 36) (o' := 36) (Zn (p := pt 0 36) (v := Iv s.node) ?_)))))
  refine Zcp (e := [some (2, 0), some (3, 0)]) (nid := 0) (Zjn (G := G) ([] ++ [(Zo ((Zb0 s.head).1))]) 1 s.node rfl (by omega) (by omega) (by omega)) (vals := [pt 2 0, Iv s.node]) (v := .tuple #[]) (H' := [bxB 69 (Zd4 s), Zao ((Zb0 s.head).1), rfB (slv 3 0 2 2), txB (([] ++ [(Zo ((Zb0 s.head).1))]) ++ [(Zp s.node).1]), hole]) rfl rfl rfl rfl rfl rfl ⟨⟨⟨rfl, rfl⟩, rfl, trivial⟩, ⟨(Zad rfl rfl rfl rfl), (Zad rfl rfl rfl rfl), trivial⟩, rfl, rfl, rfl, Nat.le_refl _⟩ (by kernel_rfl) rfl (by kernel_rfl) ?_
  refine Za (Zc (Zf (Zg (Zh (b := 0) (o := 0) (n := 37) (o' := 37) ?_))))
  refine Zcz (p := pt 0 37) (vl := none) (vh := none) (v := slv 0 37 32 32) rfl rfl rfl rfl rfl rfl ?_
  refine Zjm (p := slv 0 37 32 32) (v := .string (Zo (dgL s.tag))) rfl rfl rfl (Zha (l := (dgL s.tag)) rfl rfl rfl rfl (of_decide_eq_true (by kernel_rfl)) (by kernel_rfl)) ?_
  refine Zcp (e := [some (2, 0), some (3, 0)]) (nid := 0) (Zo0 (G := G) (([] ++ [(Zo ((Zb0 s.head).1))]) ++ [(Zp s.node).1]) 2 (Zo (dgL s.tag)) rfl (by omega)) (vals := [pt 2 0, .string (Zo (dgL s.tag))]) (v := .tuple #[]) (H' := [bxB 69 (Zd4 s), Zao ((Zb0 s.head).1), rfB (slv 3 0 3 3), txB ((([] ++ [(Zo ((Zb0 s.head).1))]) ++ [(Zp s.node).1]) ++ [(Zo (dgL s.tag))]), hole]) rfl rfl rfl rfl rfl rfl ⟨⟨⟨rfl, rfl⟩, rfl, trivial⟩, ⟨(Zad rfl rfl rfl rfl), (Zad rfl rfl rfl rfl), trivial⟩, rfl, rfl, rfl, Nat.le_refl _⟩ (by kernel_rfl) rfl (by kernel_rfl) ?_
  refine Za (Zc (Zf (Zg ?_)))
  refine Zcp (e := [some (2, 0), some (3, 0)]) (nid := 4) (Zr2 (G := G) ((([] ++ [(Zo ((Zb0 s.head).1))]) ++ [(Zp s.node).1]) ++ [(Zo (dgL s.tag))]) 3 rfl (by omega)) (vals := [pt 2 0]) (v := slv 4 0 ((Zcu ((([] ++ [(Zo ((Zb0 s.head).1))]) ++ [(Zp s.node).1]) ++ [(Zo (dgL s.tag))])).length) ((Zcu ((([] ++ [(Zo ((Zb0 s.head).1))]) ++ [(Zp s.node).1]) ++ [(Zo (dgL s.tag))])).length)) (H' := [bxB 69 (Zd4 s), Zao ((Zb0 s.head).1), rfB (slv 3 0 3 3), txB ((([] ++ [(Zo ((Zb0 s.head).1))]) ++ [(Zp s.node).1]) ++ [(Zo (dgL s.tag))]), Zao (Zcu ((([] ++ [(Zo ((Zb0 s.head).1))]) ++ [(Zp s.node).1]) ++ [(Zo (dgL s.tag))]))]) rfl rfl rfl rfl rfl rfl ⟨⟨⟨rfl, rfl⟩, trivial⟩, ⟨(Zad rfl rfl rfl rfl), (Zad rfl rfl rfl rfl), trivial⟩, rfl, rfl, rfl, Nat.le_refl _⟩ rfl rfl (by kernel_rfl) ?_
  refine Zb (slv 4 0 ((Zcu ((([] ++ [(Zo ((Zb0 s.head).1))]) ++ [(Zp s.node).1]) ++ [(Zo (dgL s.tag))])).length) ((Zcu ((([] ++ [(Zo ((Zb0 s.head).1))]) ++ [(Zp s.node).1]) ++ [(Zo (dgL s.tag))])).length)) ?_
  refine Zb (Iv 0) (Za (Zc (Zr (Zt ?_))))
  rw [show Zap s = ((Zcu ((([] ++ [(Zo ((Zb0 s.head).1))]) ++ [(Zp s.node).1]) ++ [(Zo (dgL s.tag))])), 0) from if_pos (by omega)]
  exact Zbc [4] (v := .tuple #[slv 4 0 ((Zcu ((([] ++ [(Zo ((Zb0 s.head).1))]) ++ [(Zp s.node).1]) ++ [(Zo (dgL s.tag))])).length) ((Zcu ((([] ++ [(Zo ((Zb0 s.head).1))]) ++ [(Zp s.node).1]) ++ [(Zo (dgL s.tag))])).length), Iv 0]) rfl (by kernel_rfl) rfl rfl (by decide) (by simp [Zbe, Zao]) ⟨⟨rfl, rfl, rfl, by first | omega | exact Nat.le_refl _ | exact Nat.zero_le _ | (dsimp only; omega), by first | omega | exact Nat.le_refl _ | exact Nat.zero_le _ | (dsimp only; omega)⟩, rfl, trivial⟩
  refine Zs ((Zcv (G := G) s.node 1 3).res (congrArg Value.bool (Zac (by omega)))) (vals := [Iv s.node, Iv 1, Iv 3]) (res' := .bool false) rfl rfl rfl rfl rfl rfl ?_
  refine Zfb (vx := .bool false) rfl rfl (.bool true) rfl Zcq ?_
  refine Zk (.bool true) (Za (Zc (Zy rfl (Zf (Zg (Zb (.slice none 0 0) (Zb (Iv 70) (Za (Zc ?_)))))))))
  refine Zca (Za7.nilTmp (i := 2) (b := 2) true 1 rfl (by decide) rfl) ?_
  refine Zr (Z2 (Zt ?_))
  rw [show Zap s = ([], 70) from if_neg (by omega)]
  exact Zbc [2] (v := .tuple #[slv 2 0 0 0, Iv 70]) rfl (by kernel_rfl) rfl rfl (by decide) (by simp [Zbe, Zao]) ⟨⟨rfl, rfl, rfl, by first | omega | exact Nat.le_refl _ | exact Nat.zero_le _ | (dsimp only; omega), by first | omega | exact Nat.le_refl _ | exact Nat.zero_le _ | (dsimp only; omega)⟩, rfl, trivial⟩
  refine Zs ((Zcv (G := G) s.node 1 3).res (congrArg Value.bool (Zac (by omega)))) (vals := [Iv s.node, Iv 1, Iv 3]) (res' := .bool false) rfl rfl rfl rfl rfl rfl ?_
  refine Zfb (vx := .bool false) rfl rfl (.bool true) rfl Zcq ?_
  refine Zk (.bool true) (Za (Zc (Zy rfl (Zf (Zg (Zb (.slice none 0 0) (Zb (Iv 70) (Za (Zc ?_)))))))))
  refine Zca (Za7.nilTmp (i := 2) (b := 2) true 1 rfl (by decide) rfl) ?_
  refine Zr (Z2 (Zt ?_))
  rw [show Zap s = ([], 70) from if_neg (by omega)]
  exact Zbc [2] (v := .tuple #[slv 2 0 0 0, Iv 70]) rfl (by kernel_rfl) rfl rfl (by decide) (by simp [Zbe, Zao]) ⟨⟨rfl, rfl, rfl, by first | omega | exact Nat.le_refl _ | exact Nat.zero_le _ | (dsimp only; omega), by first | omega | exact Nat.le_refl _ | exact Nat.zero_le _ | (dsimp only; omega)⟩, rfl, trivial⟩
end Go.Flat
namespace Go.Flat
open Go.Proofs
variable {G : Glob}
def beL : Nat → Nat → Bs → Bs
  | 0, _, l => l
  | f + 1, n, l => if n = 0 then l else beL f (n / 256) (BitVec.ofInt 8 (n : Int) :: l)
def Z2x : Nat → List ByteArray → Bs
  | _, [] => []
  | k, x :: l => Zim ⟨(k : Int) + 1, x⟩ ++ Z2x (k + 1) l
theorem Zxo {f : Field} {last : Int} (h1 : last < f.tag) (h2 : f.tag ≤ 255) (h3 : f.data.size ≤ 65536) : Ze0 f last = 0 := by
 unfold Ze0
 rw [if_neg (by omega), if_neg (by omega), if_neg (by omega)]
theorem Zmj : ∀ (ls : List ByteArray) (k : Nat) (acc : Bs), k + ls.length ≤ 255 → (∀ x, x ∈ ls → x.size ≤ 65536) → Z3 (Zgg k ls) (k : Nat) acc = (acc ++ Z2x k ls, 0)
 | [], k, acc, _, _ => by simp [Z3, Zgg, Z2x]
 | x :: l, k, acc, h, hs => by
  simp only [List.length_cons] at h
  rw [Zgg, Z3, if_pos (Zxo (by dsimp only; omega) (by dsimp only; omega) (hs x (by simp))), Z2x]
  have := Zmj l (k + 1) (acc ++ Zim ⟨(k : Int) + 1, x⟩) (by omega) (fun y hy => hs y (by simp [hy]))
  rw [show ((k + 1 : Nat) : Int) = (k : Int) + 1 by omega] at this
  rw [this, List.append_assoc]
end Go.Flat
namespace Go.Flat
open Go.Proofs
variable {G : Glob}
theorem Z0e {h : Head} (hr : Zkn h) : Zb0 h = (Zcu (Zh6 h), 0) := by
 unfold Zb0
 rw [if_pos (by rw [Zh4, if_pos hr])]
theorem Zt7 (h : Head) : (Zcu (Zh6 h)).length ≤ 100 := by
 have := Zg5 (Zgg 0 (Zh6 h)) 0 []
 simp only [Zh6, Zgg, Zmw, Zcc, Zju, List.length_nil] at this
 have h1 := Za4 h.region
 have h2 := Za4 h.epoch
 have h3 := Za4 h.size
 have h4 := Za4 h.tick
 show (Z3 (Zgg 0 (Zh6 h)) 0 []).1.length ≤ 100
 simp only [Zh6, Zgg]
 omega
def Zlx (s : Signed) : List ByteArray := [Zo (Zcu (Zh6 s.head)), (Zp s.node).1, Zo (dgL s.tag)]
def Zup (s : Signed) : Prop := Zkn s.head ∧ 1 ≤ s.node ∧ s.node ≤ 3
instance (s : Signed) : Decidable (Zup s) := inferInstanceAs (Decidable (_ ∧ _))
theorem Zxw {s : Signed} (h : Zup s) : Zap s = (Zcu (Zlx s), 0) := by
 unfold Zap
 rw [if_pos ⟨by rw [Zh4, if_pos h.1], h.2⟩, Z0e h.1]
 try rfl
theorem Zxv {s : Signed} (h : ¬ Zup s) : Zap s = ([], 70) := by
 unfold Zap
 rw [if_neg]
 rintro ⟨h1, h2⟩
 refine h ⟨?_, h2⟩
 rw [Zh4] at h1
 split at h1
 ·assumption
 ·omega
def Z51 (kk : Nat → BitVec 32) (master : D) (h : Head) (node : Int) : D := Zzz kk (Zzz kk master (Zo [75#8, BitVec.ofInt 8 h.region, BitVec.ofInt 8 node])) (Zz1 ++ Zo (Zcu (Zh6 h)))
def Z3v : Signed := ⟨⟨0, 0, 0, dz, 0⟩, 0, dz⟩
def Z7l (kk : Nat → BitVec 32) (master : D) (h : Head) (node : Int) : Signed × Int := if Zkn h ∧ 1 ≤ node ∧ node ≤ 3 then (⟨h, node, Z51 kk master h node⟩, 0) else (Z3v, 70)
def Z6d (kk : Nat → BitVec 32) (master : D) (s : Signed) : Int := if Zup s then (if Zfx 32 (Z51 kk master s.head s.node) s.tag = true then 0 else 72) else 70
end Go.Flat
