/- Walks. -/
import Derived.Test.YtoafdomlefoenaaH3
import Derived.Test.YtoafdomlefoenaaFlatG
set_option linter.unusedVariables false
set_option maxRecDepth 20000
set_option linter.unusedSimpArgs false
namespace Go.Flat
open Go.Proofs
variable {G : Glob}
structure Head where
  region : Int
  epoch : Int
  size : Int
  root : D
  tick : Int
structure Signed where
  head : Head
  node : Int
  tag : D
def Zip (h : Head) : List Value := [.int .i64 h.region, .int .i64 h.epoch, .int .i64 h.size] ++ Ze2 w8 32 h.root ++ [.int .i64 h.tick]
def Zid (h : Head) : Value := .agg (Zip h).toArray
def Zgq (s : Signed) : List Value := Zip s.head ++ [.int .i64 s.node] ++ Ze2 w8 32 s.tag
def Zcu (s : Signed) : Value := .agg (Zgq s).toArray
def Z07 : Nat → List ByteArray → List Field
  | _, [] => []
  | k, x :: l => ⟨(k : Int) + 1, x⟩ :: Z07 (k + 1) l
def Zph (ls : List ByteArray) : Bs := (Z0y (Z07 0 ls) 0 []).1
def Zbs (n low high : Int) : Bool :=
  if low ≤ n then (if n ≤ high then true else
  false) else
  false
theorem Zdy (n low high : Int) : Zat Try.prog G 70 [Iv n, Iv low, Iv high] [] (.bool (Zbs n low high)) [] := by
 refine Zcg (fn := Try.f70) (nt := 15) rfl rfl rfl rfl ?_
 refine Zi (Zm (Zc (.bool false) (Zd (Ze (Zi (Zm (Zb (Iv n) (Zb (Iv low) ?_))))))))
 by_cases h1 : low ≤ n
 refine Zn (vx := Iv n) (vy := Iv low) rfl rfl (.bool true) rfl rfl (Zic (by omega)) ?_
 refine Zb (.bool true) (Zb (Iv n) (Zb (Iv high) ?_))
 by_cases h2 : n ≤ high
 refine Zn (vx := Iv n) (vy := Iv high) rfl rfl (.bool true) rfl rfl (Zjn (by omega)) ?_
 refine Zg (.bool true) (Zc (.bool true) (Zd (Ze (Zs (Zq ?_)))))
 rw [show Zbs n low high = true from by unfold Zbs; rw [if_pos h1, if_pos h2]]
 exact Zk (v := .bool true) rfl rfl rfl (by kernel_rfl) rfl
 refine Zn (vx := Iv n) (vy := Iv high) rfl rfl (.bool false) rfl rfl (Zjm (by omega)) ?_
 refine Zg (.bool false) (Zc (.bool false) (Zd (Ze (Zs (Zq ?_)))))
 rw [show Zbs n low high = false from by unfold Zbs; rw [if_pos h1, if_neg h2]]
 exact Zk (v := .bool false) rfl rfl rfl (by kernel_rfl) rfl
 refine Zn (vx := Iv n) (vy := Iv low) rfl rfl (.bool false) rfl rfl (Zho (by omega)) ?_
 refine Zb (.bool false) (Za (Za (Za (Zg (.bool false) (Zc (.bool false) (Zd (Ze (Zs (Zq ?_)))))))))
 rw [show Zbs n low high = false from by unfold Zbs; rw [if_neg h1]]
 exact Zk (v := .bool false) rfl rfl rfl (by kernel_rfl) rfl
theorem Zak {n low high : Int} (h1 : low ≤ n) (h2 : n ≤ high) : Zbs n low high = true := by unfold Zbs; rw [if_pos h1, if_pos h2]
theorem Z2 {n low high : Int} (h : n < low ∨ high < n) : Zbs n low high = false := by
 unfold Zbs
 by_cases h1 : low ≤ n
 ·rw [if_pos h1, if_neg (by omega)]
 ·rw [if_neg h1]
def Zcv (h : Head) : Int :=
  if 1 ≤ h.region then (if h.region ≤ 5 then (if 1 ≤ h.epoch then (if h.epoch ≤ 900000000 then (if 0 ≤ h.size then (if h.size ≤ 100000 then (if 0 ≤ h.tick then (if h.tick ≤ 900000000 then 0 else
  70) else
  70) else
  70) else
  70) else
  70) else
  70) else
  70) else
  70
theorem Zvk (h : Head) : Zat Try.prog G 64 [Zid h] [] (Iv (Zcv h)) [] := by
 refine Zcg (fn := Try.f64) (nt := 21) rfl rfl rfl rfl ?_
 refine Za8 1 (H' := [hole]) rfl ?_
 refine Zi (Zm (Zbn (v := Zid h) (b := bxB 36 (Zip h)) (nid := 0) (H' := [bxB 36 (Zip h)]) (Zc (Iv 0) (Zd (Ze (Zi (Zi (Zm (Zf (b := 0) (o := 0) (n := 0) (o' := 0) (Zl (p := pt 0 0) (v := Iv h.region) ?_))))))))))
 by_cases h1 : 1 ≤ h.region
 by_cases h2 : h.region ≤ 5
 refine Zw ((Zdy (G := G) h.region 1 5).res (congrArg Value.bool (Zak (by omega) (by omega)))) (vals := [Iv h.region, Iv 1, Iv 5]) (res' := .bool true) rfl rfl rfl rfl rfl rfl ?_
 refine Zb (.bool true) (Zf (b := 0) (o := 0) (n := 1) (o' := 1) (Zl (p := pt 0 1) (v := Iv h.epoch) ?_))
 by_cases h3 : 1 ≤ h.epoch
 by_cases h4 : h.epoch ≤ 900000000
 refine Zw ((Zdy (G := G) h.epoch 1 900000000).res (congrArg Value.bool (Zak (by omega) (by omega)))) (vals := [Iv h.epoch, Iv 1, Iv 900000000]) (res' := .bool true) rfl rfl rfl rfl rfl rfl ?_
 refine Zg (.bool true) (Zb (.bool true) (Zf (b := 0) (o := 0) (n := 2) (o' := 2) (Zl (p := pt 0 2) (v := Iv h.size) ?_)))
 by_cases h5 : 0 ≤ h.size
 by_cases h6 : h.size ≤ 100000
 refine Zw ((Zdy (G := G) h.size 0 100000).res (congrArg Value.bool (Zak (by omega) (by omega)))) (vals := [Iv h.size, Iv 0, Iv 100000]) (res' := .bool true) rfl rfl rfl rfl rfl rfl ?_
 refine Zg (.bool true) (Zb (.bool true) (Zf (b := 0) (o := 0) (n := 35) (o' := 35) (Zl (p := pt 0 35) (v := Iv h.tick) ?_)))
 by_cases h7 : 0 ≤ h.tick
 by_cases h8 : h.tick ≤ 900000000
 refine Zw ((Zdy (G := G) h.tick 0 900000000).res (congrArg Value.bool (Zak (by omega) (by omega)))) (vals := [Iv h.tick, Iv 0, Iv 900000000]) (res' := .bool true) rfl rfl rfl rfl rfl rfl ?_
 refine Zg (.bool true) (Zd (Ze (Z4 rfl (Zi (Zm (Zc (Iv 0) (Zd (Ze (Zs (Zv (Zq ?_)))))))))))
 rw [show Zcv h = 0 from by unfold Zcv; rw [if_pos h1, if_pos h2, if_pos h3, if_pos h4, if_pos h5, if_pos h6, if_pos h7, if_pos h8]]
 exact Zk (v := Iv 0) rfl rfl rfl (by kernel_rfl) rfl
 refine Zw ((Zdy (G := G) h.tick 0 900000000).res (congrArg Value.bool (Z2 (by omega)))) (vals := [Iv h.tick, Iv 0, Iv 900000000]) (res' := .bool false) rfl rfl rfl rfl rfl rfl ?_
 refine Zg (.bool false) (Zd (Ze (Zz rfl (Z9 (Ze (Zi (Zm (Zc (Iv 70) (Zd (Ze (Zs (Zq ?_))))))))))))
 rw [show Zcv h = 70 from by unfold Zcv; rw [if_pos h1, if_pos h2, if_pos h3, if_pos h4, if_pos h5, if_pos h6, if_pos h7, if_neg h8]]
 exact Zk (v := Iv 70) rfl rfl rfl (by kernel_rfl) rfl
 refine Zw ((Zdy (G := G) h.tick 0 900000000).res (congrArg Value.bool (Z2 (by omega)))) (vals := [Iv h.tick, Iv 0, Iv 900000000]) (res' := .bool false) rfl rfl rfl rfl rfl rfl ?_
 refine Zg (.bool false) (Zd (Ze (Zz rfl (Z9 (Ze (Zi (Zm (Zc (Iv 70) (Zd (Ze (Zs (Zq ?_))))))))))))
 rw [show Zcv h = 70 from by unfold Zcv; rw [if_pos h1, if_pos h2, if_pos h3, if_pos h4, if_pos h5, if_pos h6, if_neg h7]]
 exact Zk (v := Iv 70) rfl rfl rfl (by kernel_rfl) rfl
 refine Zw ((Zdy (G := G) h.size 0 100000).res (congrArg Value.bool (Z2 (by omega)))) (vals := [Iv h.size, Iv 0, Iv 100000]) (res' := .bool false) rfl rfl rfl rfl rfl rfl ?_
 refine Zg (.bool false) (Zb (.bool false) (Za (Za (Za (Zg (.bool false) (Zd (Ze (Zz rfl (Z9 (Ze (Zi (Zm (Zc (Iv 70) (Zd (Ze (Zs (Zq ?_)))))))))))))))))
 rw [show Zcv h = 70 from by unfold Zcv; rw [if_pos h1, if_pos h2, if_pos h3, if_pos h4, if_pos h5, if_neg h6]]
 exact Zk (v := Iv 70) rfl rfl rfl (by kernel_rfl) rfl
 refine Zw ((Zdy (G := G) h.size 0 100000).res (congrArg Value.bool (Z2 (by omega)))) (vals := [Iv h.size, Iv 0, Iv 100000]) (res' := .bool false) rfl rfl rfl rfl rfl rfl ?_
 refine Zg (.bool false) (Zb (.bool false) (Za (Za (Za (Zg (.bool false) (Zd (Ze (Zz rfl (Z9 (Ze (Zi (Zm (Zc (Iv 70) (Zd (Ze (Zs (Zq ?_)))))))))))))))))
 rw [show Zcv h = 70 from by unfold Zcv; rw [if_pos h1, if_pos h2, if_pos h3, if_pos h4, if_neg h5]]
 exact Zk (v := Iv 70) rfl rfl rfl (by kernel_rfl) rfl
 refine Zw ((Zdy (G := G) h.epoch 1 900000000).res (congrArg Value.bool (Z2 (by omega)))) (vals := [Iv h.epoch, Iv 1, Iv 900000000]) (res' := .bool false) rfl rfl rfl rfl rfl rfl ?_
 refine Zg (.bool false) (Zb (.bool false) (Za (Za (Za (Zg (.bool false) (Zb (.bool false) (Za (Za (Za (Zg (.bool false) (Zd (Ze (Zz rfl (Z9 (Ze (Zi (Zm (Zc (Iv 70) (Zd (Ze (Zs (Zq ?_))))))))))))))))))))))
 rw [show Zcv h = 70 from by unfold Zcv; rw [if_pos h1, if_pos h2, if_pos h3, if_neg h4]]
 exact Zk (v := Iv 70) rfl rfl rfl (by kernel_rfl) rfl
 refine Zw ((Zdy (G := G) h.epoch 1 900000000).res (congrArg Value.bool (Z2 (by omega)))) (vals := [Iv h.epoch, Iv 1, Iv 900000000]) (res' := .bool false) rfl rfl rfl rfl rfl rfl ?_
 refine Zg (.bool false) (Zb (.bool false) (Za (Za (Za (Zg (.bool false) (Zb (.bool false) (Za (Za (Za (Zg (.bool false) (Zd (Ze (Zz rfl (Z9 (Ze (Zi (Zm (Zc (Iv 70) (Zd (Ze (Zs (Zq ?_))))))))))))))))))))))
 rw [show Zcv h = 70 from by unfold Zcv; rw [if_pos h1, if_pos h2, if_neg h3]]
 exact Zk (v := Iv 70) rfl rfl rfl (by kernel_rfl) rfl
 refine Zw ((Zdy (G := G) h.region 1 5).res (congrArg Value.bool (Z2 (by omega)))) (vals := [Iv h.region, Iv 1, Iv 5]) (res' := .bool false) rfl rfl rfl rfl rfl rfl ?_
 refine Zb (.bool false) (Za (Za (Za (Zg (.bool false) (Zb (.bool false) (Za (Za (Za (Zg (.bool false) (Zb (.bool false) (Za (Za (Za (Zg (.bool false) (Zd (Ze (Zz rfl (Z9 (Ze (Zi (Zm (Zc (Iv 70) (Zd (Ze (Zs (Zq ?_))))))))))))))))))))))))))
 rw [show Zcv h = 70 from by unfold Zcv; rw [if_pos h1, if_neg h2]]
 exact Zk (v := Iv 70) rfl rfl rfl (by kernel_rfl) rfl
 refine Zw ((Zdy (G := G) h.region 1 5).res (congrArg Value.bool (Z2 (by omega)))) (vals := [Iv h.region, Iv 1, Iv 5]) (res' := .bool false) rfl rfl rfl rfl rfl rfl ?_
 refine Zb (.bool false) (Za (Za (Za (Zg (.bool false) (Zb (.bool false) (Za (Za (Za (Zg (.bool false) (Zb (.bool false) (Za (Za (Za (Zg (.bool false) (Zd (Ze (Zz rfl (Z9 (Ze (Zi (Zm (Zc (Iv 70) (Zd (Ze (Zs (Zq ?_))))))))))))))))))))))))))
 rw [show Zcv h = 70 from by unfold Zcv; rw [if_neg h1]]
 exact Zk (v := Iv 70) rfl rfl rfl (by kernel_rfl) rfl
def Zc6 (h : Head) : Prop := (1 ≤ h.region ∧ h.region ≤ 5) ∧ (1 ≤ h.epoch ∧ h.epoch ≤ 900000000) ∧ (0 ≤ h.size ∧ h.size ≤ 100000) ∧ (0 ≤ h.tick ∧ h.tick ≤ 900000000)
instance (h : Head) : Decidable (Zc6 h) := inferInstanceAs (Decidable (_ ∧ _))
theorem Zup (h : Head) : Zcv h = if Zc6 h then 0 else 70 := by
 unfold Zcv Zc6
 repeat (first | split | omega)
def Zv9 (h : Head) : List ByteArray := [(Zu0 h.region).1, (Zu0 h.epoch).1, (Zu0 h.size).1, Zf2 (dgL h.root), (Zu0 h.tick).1]
def Zu5 (h : Head) : Bs × Int := if Zcv h = 0 then (Zph (Zv9 h), 0) else ([], Zcv h)
end Go.Flat
namespace Go.Flat
open Go.Proofs
variable {G : Glob}
def Z16 (key : D) : D := fun i => if i < 32 then key i else 0
def Z1k (c : D) (x : BitVec 8) (j : Nat) : D := fun i => if i < j then c i ^^^ x else c i
def Zvu (key : D) (x : BitVec 8) : ByteArray := Zf2 (Zz9 64 (Z1k (Z16 key) x 64))
def Zwu (kk : Nat → BitVec 32) (key : D) (s : ByteArray) : D := Zrr kk (Zt6 [Zvu key 92#8, Zf2 (dgL (Zrr kk (Zt6 [Zvu key 54#8, s])))])
def Z1u (a b : D) : Nat → BitVec 8
  | 0 => 0
  | j + 1 => Z1u a b j ||| (a j ^^^ b j)
def Zwg (kk : Nat → BitVec 32) (master : D) (region node : Int) : D × Int := if (1 ≤ region ∧ region ≤ 5) ∧ (1 ≤ node ∧ node ≤ 3) then (Zwu kk master (Zf2 [75#8, BitVec.ofInt 8 region, BitVec.ofInt 8 node]), 0) else (dz, 50)
def Zzu (kk : Nat → BitVec 32) (master : D) (region node : Int) (s : ByteArray) (t : D) : Int :=
  if ((Zwg kk master region node).2) ≠ 0 then ((Zwg kk master region node).2) else
  if Zfm 32 (Zwu kk ((Zwg kk master region node).1) s) t = true then 0 else
  72
end Go.Flat
namespace Go.Flat
open Go.Proofs
variable {G : Glob}
def Zwv : ByteArray := ⟨#[104, 101, 97, 100, 32]⟩
def Z2h : List Field → Nat
  | [] => 0
  | f :: l => f.data.size + 4 + Z2h l
def Z2p (s : Signed) : Bs × Int := if Zcv s.head = 0 ∧ 1 ≤ s.node ∧ s.node ≤ 3 then (Zph [Zf2 (Zu5 s.head).1, (Zu0 s.node).1, Zf2 (dgL s.tag)], 0) else ([], 70)
def Z2r (kk : Nat → BitVec 32) (master : D) (h : Head) (node : Int) : Signed × Int :=
  if ((Zu5 h).2) ≠ 0 then ((⟨(⟨0, 0, 0, dz, 0⟩ : Head), 0, dz⟩ : Signed), ((Zu5 h).2)) else
  if ((Zwg kk master h.region node).2) ≠ 0 then ((⟨(⟨0, 0, 0, dz, 0⟩ : Head), 0, dz⟩ : Signed), 70) else
  ((⟨h, node, (Zwu kk ((Zwg kk master h.region node).1) (Zwv ++ (Zf2 ((Zu5 h).1))))⟩ : Signed), 0)
def Z1r (kk : Nat → BitVec 32) (master : D) (s : Signed) : Int :=
  if ((Zu5 s.head).2) ≠ 0 then 70 else
  if 1 ≤ s.node then (if s.node ≤ 3 then (Zzu kk master s.head.region s.node (Zwv ++ (Zf2 ((Zu5 s.head).1))) s.tag) else
  70) else
  70
end Go.Flat
namespace Go.Flat
open Go.Proofs
variable {G : Glob}
def beL : Nat → Nat → Bs → Bs
  | 0, _, l => l
  | f + 1, n, l => if n = 0 then l else beL f (n / 256) (BitVec.ofInt 8 (n : Int) :: l)
def Z2d : Nat → List ByteArray → Bs
  | _, [] => []
  | k, x :: l => Z0n ⟨(k : Int) + 1, x⟩ ++ Z2d (k + 1) l
theorem Zb7 (n low high : Int) : Zat Try.prog G 75 [Iv n, Iv low, Iv high] [] (.bool (Zbs n low high)) [] := by
 refine Zcg (fn := Try.f75) (nt := 15) rfl rfl rfl rfl ?_
 refine Zi (Zm (Zc (.bool false) (Zd (Ze (Zi (Zm (Zb (Iv n) (Zb (Iv low) ?_))))))))
 by_cases h1 : low ≤ n
 refine Zn (vx := Iv n) (vy := Iv low) rfl rfl (.bool true) rfl rfl (Zic (by omega)) ?_
 refine Zb (.bool true) (Zb (Iv n) (Zb (Iv high) ?_))
 by_cases h2 : n ≤ high
 refine Zn (vx := Iv n) (vy := Iv high) rfl rfl (.bool true) rfl rfl (Zjn (by omega)) ?_
 refine Zg (.bool true) (Zc (.bool true) (Zd (Ze (Zs (Zq ?_)))))
 rw [show Zbs n low high = true from Zak (by omega) (by omega)]
 exact Zk (v := .bool true) rfl rfl rfl (by kernel_rfl) rfl
 refine Zn (vx := Iv n) (vy := Iv high) rfl rfl (.bool false) rfl rfl (Zjm (by omega)) ?_
 refine Zg (.bool false) (Zc (.bool false) (Zd (Ze (Zs (Zq ?_)))))
 rw [show Zbs n low high = false from Z2 (by omega)]
 exact Zk (v := .bool false) rfl rfl rfl (by kernel_rfl) rfl
 refine Zn (vx := Iv n) (vy := Iv low) rfl rfl (.bool false) rfl rfl (Zho (by omega)) ?_
 refine Zb (.bool false) (Za (Za (Za (Zg (.bool false) (Zc (.bool false) (Zd (Ze (Zs (Zq ?_)))))))))
 rw [show Zbs n low high = false from Z2 (by omega)]
 exact Zk (v := .bool false) rfl rfl rfl (by kernel_rfl) rfl
theorem Zri (h : Head) : Zat Try.prog G 74 [Zid h] [] (.bool (decide (Zc6 h))) [] := by
 refine Zcg (fn := Try.f74) (nt := 21) rfl rfl rfl rfl ?_
 refine Za8 1 (H' := [hole]) rfl ?_
 refine Zi (Zm (Zbn (v := Zid h) (b := bxB 36 (Zip h)) (nid := 0) (H' := [bxB 36 (Zip h)]) (Zc (.bool false) (Zd (Ze (Zi (Zm (Zf (b := 0) (o := 0) (n := 0) (o' := 0) (Zl (p := pt 0 0) (v := Iv h.region) ?_)))))))))
 by_cases h1 : 1 ≤ h.region
 by_cases h2 : h.region ≤ 5
 refine Zw ((Zb7 (G := G) h.region 1 5).res (congrArg Value.bool (Zak (by omega) (by omega)))) (vals := [Iv h.region, Iv 1, Iv 5]) (res' := .bool true) rfl rfl rfl rfl rfl rfl ?_
 refine Zb (.bool true) (Zf (b := 0) (o := 0) (n := 1) (o' := 1) (Zl (p := pt 0 1) (v := Iv h.epoch) ?_))
 by_cases h3 : 1 ≤ h.epoch
 by_cases h4 : h.epoch ≤ 900000000
 refine Zw ((Zb7 (G := G) h.epoch 1 900000000).res (congrArg Value.bool (Zak (by omega) (by omega)))) (vals := [Iv h.epoch, Iv 1, Iv 900000000]) (res' := .bool true) rfl rfl rfl rfl rfl rfl ?_
 refine Zg (.bool true) (Zb (.bool true) (Zf (b := 0) (o := 0) (n := 2) (o' := 2) (Zl (p := pt 0 2) (v := Iv h.size) ?_)))
 by_cases h5 : 0 ≤ h.size
 by_cases h6 : h.size ≤ 100000
 refine Zw ((Zb7 (G := G) h.size 0 100000).res (congrArg Value.bool (Zak (by omega) (by omega)))) (vals := [Iv h.size, Iv 0, Iv 100000]) (res' := .bool true) rfl rfl rfl rfl rfl rfl ?_
 refine Zg (.bool true) (Zb (.bool true) (Zf (b := 0) (o := 0) (n := 35) (o' := 35) (Zl (p := pt 0 35) (v := Iv h.tick) ?_)))
 by_cases h7 : 0 ≤ h.tick
 by_cases h8 : h.tick ≤ 900000000
 refine Zw ((Zb7 (G := G) h.tick 0 900000000).res (congrArg Value.bool (Zak (by omega) (by omega)))) (vals := [Iv h.tick, Iv 0, Iv 900000000]) (res' := .bool true) rfl rfl rfl rfl rfl rfl ?_
 refine Zg (.bool true) (Zc (.bool true) (Zd (Ze (Zs (Zq ?_)))))
 rw [show decide (Zc6 h) = true from decide_eq_true (by unfold Zc6; omega)]
 exact Zk (v := .bool true) rfl rfl rfl (by kernel_rfl) rfl
 refine Zw ((Zb7 (G := G) h.tick 0 900000000).res (congrArg Value.bool (Z2 (by omega)))) (vals := [Iv h.tick, Iv 0, Iv 900000000]) (res' := .bool false) rfl rfl rfl rfl rfl rfl ?_
 refine Zg (.bool false) (Zc (.bool false) (Zd (Ze (Zs (Zq ?_)))))
 rw [show decide (Zc6 h) = false from decide_eq_false (by unfold Zc6; omega)]
 exact Zk (v := .bool false) rfl rfl rfl (by kernel_rfl) rfl
 refine Zw ((Zb7 (G := G) h.tick 0 900000000).res (congrArg Value.bool (Z2 (by omega)))) (vals := [Iv h.tick, Iv 0, Iv 900000000]) (res' := .bool false) rfl rfl rfl rfl rfl rfl ?_
 refine Zg (.bool false) (Zc (.bool false) (Zd (Ze (Zs (Zq ?_)))))
 rw [show decide (Zc6 h) = false from decide_eq_false (by unfold Zc6; omega)]
 exact Zk (v := .bool false) rfl rfl rfl (by kernel_rfl) rfl
 refine Zw ((Zb7 (G := G) h.size 0 100000).res (congrArg Value.bool (Z2 (by omega)))) (vals := [Iv h.size, Iv 0, Iv 100000]) (res' := .bool false) rfl rfl rfl rfl rfl rfl ?_
 refine Zg (.bool false) (Zb (.bool false) (Za (Za (Za (Zg (.bool false) (Zc (.bool false) (Zd (Ze (Zs (Zq ?_))))))))))
 rw [show decide (Zc6 h) = false from decide_eq_false (by unfold Zc6; omega)]
 exact Zk (v := .bool false) rfl rfl rfl (by kernel_rfl) rfl
 refine Zw ((Zb7 (G := G) h.size 0 100000).res (congrArg Value.bool (Z2 (by omega)))) (vals := [Iv h.size, Iv 0, Iv 100000]) (res' := .bool false) rfl rfl rfl rfl rfl rfl ?_
 refine Zg (.bool false) (Zb (.bool false) (Za (Za (Za (Zg (.bool false) (Zc (.bool false) (Zd (Ze (Zs (Zq ?_))))))))))
 rw [show decide (Zc6 h) = false from decide_eq_false (by unfold Zc6; omega)]
 exact Zk (v := .bool false) rfl rfl rfl (by kernel_rfl) rfl
 refine Zw ((Zb7 (G := G) h.epoch 1 900000000).res (congrArg Value.bool (Z2 (by omega)))) (vals := [Iv h.epoch, Iv 1, Iv 900000000]) (res' := .bool false) rfl rfl rfl rfl rfl rfl ?_
 refine Zg (.bool false) (Zb (.bool false) (Za (Za (Za (Zg (.bool false) (Zb (.bool false) (Za (Za (Za (Zg (.bool false) (Zc (.bool false) (Zd (Ze (Zs (Zq ?_)))))))))))))))
 rw [show decide (Zc6 h) = false from decide_eq_false (by unfold Zc6; omega)]
 exact Zk (v := .bool false) rfl rfl rfl (by kernel_rfl) rfl
 refine Zw ((Zb7 (G := G) h.epoch 1 900000000).res (congrArg Value.bool (Z2 (by omega)))) (vals := [Iv h.epoch, Iv 1, Iv 900000000]) (res' := .bool false) rfl rfl rfl rfl rfl rfl ?_
 refine Zg (.bool false) (Zb (.bool false) (Za (Za (Za (Zg (.bool false) (Zb (.bool false) (Za (Za (Za (Zg (.bool false) (Zc (.bool false) (Zd (Ze (Zs (Zq ?_)))))))))))))))
 rw [show decide (Zc6 h) = false from decide_eq_false (by unfold Zc6; omega)]
 exact Zk (v := .bool false) rfl rfl rfl (by kernel_rfl) rfl
 refine Zw ((Zb7 (G := G) h.region 1 5).res (congrArg Value.bool (Z2 (by omega)))) (vals := [Iv h.region, Iv 1, Iv 5]) (res' := .bool false) rfl rfl rfl rfl rfl rfl ?_
 refine Zb (.bool false) (Za (Za (Za (Zg (.bool false) (Zb (.bool false) (Za (Za (Za (Zg (.bool false) (Zb (.bool false) (Za (Za (Za (Zg (.bool false) (Zc (.bool false) (Zd (Ze (Zs (Zq ?_)))))))))))))))))))
 rw [show decide (Zc6 h) = false from decide_eq_false (by unfold Zc6; omega)]
 exact Zk (v := .bool false) rfl rfl rfl (by kernel_rfl) rfl
 refine Zw ((Zb7 (G := G) h.region 1 5).res (congrArg Value.bool (Z2 (by omega)))) (vals := [Iv h.region, Iv 1, Iv 5]) (res' := .bool false) rfl rfl rfl rfl rfl rfl ?_
 refine Zb (.bool false) (Za (Za (Za (Zg (.bool false) (Zb (.bool false) (Za (Za (Za (Zg (.bool false) (Zb (.bool false) (Za (Za (Za (Zg (.bool false) (Zc (.bool false) (Zd (Ze (Zs (Zq ?_)))))))))))))))))))
 rw [show decide (Zc6 h) = false from decide_eq_false (by unfold Zc6; omega)]
 exact Zk (v := .bool false) rfl rfl rfl (by kernel_rfl) rfl
end Go.Flat
namespace Go.Flat
open Go.Proofs
variable {G : Glob}
def Z1p (s : Signed) : List ByteArray := [Zf2 (Zph (Zv9 s.head)), (Zu0 s.node).1, Zf2 (dgL s.tag)]
def Zlb (s : Signed) : Prop := Zc6 s.head ∧ 1 ≤ s.node ∧ s.node ≤ 3
instance (s : Signed) : Decidable (Zlb s) := inferInstanceAs (Decidable (_ ∧ _))
def Z1g (kk : Nat → BitVec 32) (master : D) (h : Head) (node : Int) : D := Zwu kk (Zwu kk master (Zf2 [75#8, BitVec.ofInt 8 h.region, BitVec.ofInt 8 node])) (Zwv ++ Zf2 (Zph (Zv9 h)))
def Zzd : Signed := ⟨⟨0, 0, 0, dz, 0⟩, 0, dz⟩
def Z2s (kk : Nat → BitVec 32) (master : D) (h : Head) (node : Int) : Signed × Int := if Zc6 h ∧ 1 ≤ node ∧ node ≤ 3 then (⟨h, node, Z1g kk master h node⟩, 0) else (Zzd, 70)
def Z1s (kk : Nat → BitVec 32) (master : D) (s : Signed) : Int := if Zlb s then (if Zfm 32 (Z1g kk master s.head s.node) s.tag = true then 0 else 72) else 70
theorem Zu9 (s : Signed) : Zat Try.prog G 69 [Zcu s] [] (.bool (decide (Zlb s))) [] := by
  refine Zcg (fn := Try.f69) (nt := 11) rfl rfl rfl rfl ?_
  refine Za8 1 (H' := [hole]) rfl ?_
  refine Zi (Zm (Zbn (v := Zcu s) (b := bxB 69 (Zgq s)) (nid := 0) (H' := [bxB 69 (Zgq s)]) (Zc (.bool false) (Zd (Ze (Zi (Zm (Zf (b := 0) (o := 0) (n := 0) (o' := 0) (Zl (p := pt 0 0) (v := Zid s.head) ?_)))))))))
  refine Zw (Zri (G := G) s.head) (vals := [Zid s.head]) (res' := .bool (decide (Zc6 s.head))) rfl rfl rfl rfl rfl rfl ?_
  refine Zb (.bool (decide (Zc6 s.head))) ?_
  rcases Bool.eq_false_or_eq_true (decide (Zc6 s.head)) with h1 | h1
  refine Zas (b := 0) (o := 0) (n := 36) (o' := 36) (by exact congrArg (fun b => some (b == true)) h1) rfl rfl rfl rfl ?_
  refine Zba (p := pt 0 36) (v := Iv s.node) (by exact congrArg (fun b => some (b == true)) h1) rfl rfl (by kernel_rfl) ?_
  by_cases h2 : 1 ≤ s.node
  by_cases h3 : s.node ≤ 3
  refine Zw ((Zb7 (G := G) s.node 1 3).res (congrArg Value.bool (Zak (by omega) (by omega)))) (vals := [Iv s.node, Iv 1, Iv 3]) (res' := .bool true) (by exact congrArg (fun b => some (b == true)) h1) rfl rfl rfl rfl rfl ?_
  refine Zcw rfl rfl (.bool true) (by show some (if _ then _ else _) = _; rw [h1] <;> rfl) ?_
  refine Zc (.bool true) (Zd (Ze (Zs (Zq ?_))))
  rw [show decide (Zlb s) = true from decide_eq_true ⟨of_decide_eq_true (by assumption), by omega, by omega⟩]
  exact Zk (v := .bool true) rfl rfl rfl (by kernel_rfl) rfl
  refine Zw ((Zb7 (G := G) s.node 1 3).res (congrArg Value.bool (Z2 (by omega)))) (vals := [Iv s.node, Iv 1, Iv 3]) (res' := .bool false) (by exact congrArg (fun b => some (b == true)) h1) rfl rfl rfl rfl rfl ?_
  refine Zcw rfl rfl (.bool false) (by show some (if _ then _ else _) = _; rw [h1] <;> rfl) ?_
  refine Zc (.bool false) (Zd (Ze (Zs (Zq ?_))))
  rw [show decide (Zlb s) = false from decide_eq_false (fun hh => by first | (have := hh.2; omega) | (exact absurd hh.1 (of_decide_eq_false (by assumption))))]
  exact Zk (v := .bool false) rfl rfl rfl (by kernel_rfl) rfl
  refine Zw ((Zb7 (G := G) s.node 1 3).res (congrArg Value.bool (Z2 (by omega)))) (vals := [Iv s.node, Iv 1, Iv 3]) (res' := .bool false) (by exact congrArg (fun b => some (b == true)) h1) rfl rfl rfl rfl rfl ?_
  refine Zcw rfl rfl (.bool false) (by show some (if _ then _ else _) = _; rw [h1] <;> rfl) ?_
  refine Zc (.bool false) (Zd (Ze (Zs (Zq ?_))))
  rw [show decide (Zlb s) = false from decide_eq_false (fun hh => by first | (have := hh.2; omega) | (exact absurd hh.1 (of_decide_eq_false (by assumption))))]
  exact Zk (v := .bool false) rfl rfl rfl (by kernel_rfl) rfl
  refine Zb1 (by exact congrArg (fun b => some (b == true)) h1) rfl ?_
  refine Zb1 (by exact congrArg (fun b => some (b == true)) h1) rfl ?_
  refine Zb1 (by exact congrArg (fun b => some (b == true)) h1) rfl ?_
  refine Zcw rfl rfl (.bool false) (by show some (if _ then _ else _) = _; rw [h1] <;> rfl) ?_
  refine Zc (.bool false) (Zd (Ze (Zs (Zq ?_))))
  rw [show decide (Zlb s) = false from decide_eq_false (fun hh => by first | (have := hh.2; omega) | (exact absurd hh.1 (of_decide_eq_false (by assumption))))]
  exact Zk (v := .bool false) rfl rfl rfl (by kernel_rfl) rfl
end Go.Flat
namespace Go.Flat
open Go.Proofs Go.ChangeShapes Go.WideShapes Go.RowKit
variable {G : Glob}
def Zim (a b : Head) : Bool := ((a.region == b.region) && ((a.epoch == b.epoch) && ((a.size == b.size) && ((Zfm 32 a.root b.root) && ((a.tick == b.tick) && true)))))
theorem Zx2 (a b : Head) {d : Nat} : Zai Try.prog (Op.equalIn (d + 3) 32 (Zid a) (Zid b)) = some (Zim a b) :=
 eqS (P := Try.prog) (d + 2) 32 _ (Zip a).toArray (Zip b).toArray (fun f => if f.offset = 0 then (a.region == b.region) else if f.offset = 1 then (a.epoch == b.epoch) else if f.offset = 2 then (a.size == b.size) else if f.offset = 3 then (Zfm 32 a.root b.root) else if f.offset = 35 then (a.tick == b.tick) else true) rfl (by kernel_rfl) (List.forall_mem_cons.2 ⟨⟨by decide, Iv a.region, Iv b.region, Zbp rfl rfl rfl, Zbp rfl rfl rfl, Zfq rfl⟩, List.forall_mem_cons.2 ⟨⟨by decide, Iv a.epoch, Iv b.epoch, Zbp rfl rfl rfl, Zbp rfl rfl rfl, Zfq rfl⟩, List.forall_mem_cons.2 ⟨⟨by decide, Iv a.size, Iv b.size, Zbp rfl rfl rfl, Zbp rfl rfl rfl, Zfq rfl⟩, List.forall_mem_cons.2 ⟨⟨by decide, .agg (Ze2 w8 32 a.root).toArray, .agg (Ze2 w8 32 b.root).toArray, Zc0 (n := 32) rfl rfl rfl rfl rfl, Zc0 (n := 32) rfl rfl rfl rfl rfl, Zms rfl rfl rfl⟩, List.forall_mem_cons.2 ⟨⟨by decide, Iv a.tick, Iv b.tick, Zbp rfl rfl rfl, Zbp rfl rfl rfl, Zfq rfl⟩, fun _ h => absurd h (by simp)⟩⟩⟩⟩⟩)
theorem Zqo (a : Head) : Zim a a = true := by simp [Zim, Zfm]
def Zee (a b : Signed) : Bool := ((Zim a.head b.head) && ((a.node == b.node) && ((Zfm 32 a.tag b.tag) && true)))
theorem Zob (a b : Signed) {d : Nat} : Zai Try.prog (Op.equalIn (d + 4) 34 (Zcu a) (Zcu b)) = some (Zee a b) :=
 eqS (P := Try.prog) (d + 3) 34 _ (Zgq a).toArray (Zgq b).toArray (fun f => if f.offset = 0 then (Zim a.head b.head) else if f.offset = 36 then (a.node == b.node) else if f.offset = 37 then (Zfm 32 a.tag b.tag) else true) rfl (by kernel_rfl) (List.forall_mem_cons.2 ⟨⟨by decide, Zid a.head, Zid b.head, Zc0 (n := 36) rfl rfl rfl rfl rfl, Zc0 (n := 36) rfl rfl rfl rfl rfl, Zx2 a.head b.head⟩, List.forall_mem_cons.2 ⟨⟨by decide, Iv a.node, Iv b.node, Zbp rfl rfl rfl, Zbp rfl rfl rfl, Zfq rfl⟩, List.forall_mem_cons.2 ⟨⟨by decide, .agg (Ze2 w8 32 a.tag).toArray, .agg (Ze2 w8 32 b.tag).toArray, Zc0 (n := 32) rfl rfl rfl rfl rfl, Zc0 (n := 32) rfl rfl rfl rfl rfl, Zms rfl rfl rfl⟩, fun _ h => absurd h (by simp)⟩⟩⟩)
theorem Zhx {x y : Operand} (a b : Signed) : Zd7 Try.prog .eql 34 x y (Zcu a) (Zcu b) = some (.bool (Zee a b)) := Zl9 (by kernel_rfl) (by kernel_rfl) (Zob a b (d := 9996))
theorem Zjl (a : Signed) : Zee a a = true := by simp [Zee, Zfm, Zqo]
def okHead (a : Head) : Prop := (-9223372036854775808 ≤ a.region ∧ a.region ≤ 9223372036854775807) ∧ (-9223372036854775808 ≤ a.epoch ∧ a.epoch ≤ 9223372036854775807) ∧ (-9223372036854775808 ≤ a.size ∧ a.size ≤ 9223372036854775807) ∧ True ∧ (-9223372036854775808 ≤ a.tick ∧ a.tick ≤ 9223372036854775807) ∧ True
theorem Zsk : Za7 Try.prog 32 Zip okHead := by
 intro H encH W fuel cs x h
 obtain ⟨xs, n, _, _, hl, hxl, hel⟩ := DataW.trod_struct (P := Try.prog) (t := 32) (fs := _) rfl h
 have hl' : cs.length = 36 := hl.trans (by kernel_rfl)
 obtain ⟨a0, e0, k0⟩ := Za7.at_ (t := 3) (off := 0) (k := 1) (Za7.int (by kernel_rfl)) (hel 0 _ rfl) (by rw [hxl]; decide) rfl (by kernel_rfl) rfl
 have q0 : cs.drop 0 = [Iv a0] ++ cs.drop 1 := by rw [Za9 0 1, e0]
 obtain ⟨a1, e1, k1⟩ := Za7.at_ (t := 3) (off := 1) (k := 1) (Za7.int (by kernel_rfl)) (hel 1 _ rfl) (by rw [hxl]; decide) rfl (by kernel_rfl) rfl
 have q1 : cs.drop 1 = [Iv a1] ++ cs.drop 2 := by rw [Za9 1 1, e1]
 obtain ⟨a2, e2, k2⟩ := Za7.at_ (t := 3) (off := 2) (k := 1) (Za7.int (by kernel_rfl)) (hel 2 _ rfl) (by rw [hxl]; decide) rfl (by kernel_rfl) rfl
 have q2 : cs.drop 2 = [Iv a2] ++ cs.drop 3 := by rw [Za9 2 1, e2]
 obtain ⟨a3, e3, k3⟩ := Za7.at_ (t := 30) (off := 3) (k := 32) (Za7.bytes (n := 32) (tb := 5) (by kernel_rfl) (by kernel_rfl) (by kernel_rfl) (by kernel_rfl)) (hel 3 _ rfl) (by rw [hxl]; decide) rfl (by kernel_rfl) rfl
 have q3 : cs.drop 3 = Ze2 w8 32 a3 ++ cs.drop 35 := by rw [Za9 3 32, e3]
 obtain ⟨a4, e4, k4⟩ := Za7.at_ (t := 3) (off := 35) (k := 1) (Za7.int (by kernel_rfl)) (hel 4 _ rfl) (by rw [hxl]; decide) rfl (by kernel_rfl) rfl
 have q4 : cs.drop 35 = [Iv a4] ++ cs.drop 36 := by rw [Za9 35 1, e4]
 have qe : cs.drop 36 = [] := List.drop_of_length_le (by omega)
 refine ⟨⟨a0, a1, a2, a3, a4⟩, ?_, k0, k1, k2, k3, k4, trivial⟩
 rw [List.drop_zero] at q0
 rw [q0, q1, q2, q3, q4, qe]
 simp [Zip]
def okSigned (a : Signed) : Prop := okHead a.head ∧ (-9223372036854775808 ≤ a.node ∧ a.node ≤ 9223372036854775807) ∧ True ∧ True
theorem Zpt : Za7 Try.prog 34 Zgq okSigned := by
 intro H encH W fuel cs x h
 obtain ⟨xs, n, _, _, hl, hxl, hel⟩ := DataW.trod_struct (P := Try.prog) (t := 34) (fs := _) rfl h
 have hl' : cs.length = 69 := hl.trans (by kernel_rfl)
 obtain ⟨a0, e0, k0⟩ := Za7.at_ (t := 32) (off := 0) (k := 36) (Zsk) (hel 0 _ rfl) (by rw [hxl]; decide) rfl (by kernel_rfl) rfl
 have q0 : cs.drop 0 = Zip a0 ++ cs.drop 36 := by rw [Za9 0 36, e0]
 obtain ⟨a1, e1, k1⟩ := Za7.at_ (t := 3) (off := 36) (k := 1) (Za7.int (by kernel_rfl)) (hel 1 _ rfl) (by rw [hxl]; decide) rfl (by kernel_rfl) rfl
 have q1 : cs.drop 36 = [Iv a1] ++ cs.drop 37 := by rw [Za9 36 1, e1]
 obtain ⟨a2, e2, k2⟩ := Za7.at_ (t := 30) (off := 37) (k := 32) (Za7.bytes (n := 32) (tb := 5) (by kernel_rfl) (by kernel_rfl) (by kernel_rfl) (by kernel_rfl)) (hel 2 _ rfl) (by rw [hxl]; decide) rfl (by kernel_rfl) rfl
 have q2 : cs.drop 37 = Ze2 w8 32 a2 ++ cs.drop 69 := by rw [Za9 37 32, e2]
 have qe : cs.drop 69 = [] := List.drop_of_length_le (by omega)
 refine ⟨⟨a0, a1, a2⟩, ?_, k0, k1, k2, trivial⟩
 rw [List.drop_zero] at q0
 rw [q0, q1, q2, qe]
 simp [Zgq]
end Go.Flat
