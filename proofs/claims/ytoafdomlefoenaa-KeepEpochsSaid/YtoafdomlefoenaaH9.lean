/- Walks. -/
import Derived.Test.YtoafdomlefoenaaH3
import Derived.Test.YtoafdomlefoenaaFlatG
set_option linter.unusedVariables false
set_option maxRecDepth 20000
set_option linter.unusedSimpArgs false
namespace Go.Flat
open Go.Proofs
variable {G : Glob}
structure Head where
  region : Int
  epoch : Int
  size : Int
  root : D
  tick : Int
structure Signed where
  head : Head
  node : Int
  tag : D
def Zhc (h : Head) : List Value := [.int .i64 h.region, .int .i64 h.epoch, .int .i64 h.size] ++ Zdp w8 32 h.root ++ [.int .i64 h.tick]
def Zg3 (h : Head) : Value := .agg (Zhc h).toArray
def Zff (s : Signed) : List Value := Zhc s.head ++ [.int .i64 s.node] ++ Zdp w8 32 s.tag
def Zb3 (s : Signed) : Value := .agg (Zff s).toArray
def Zxg : Nat → List ByteArray → List Field
  | _, [] => []
  | k, x :: l => ⟨(k : Int) + 1, x⟩ :: Zxg (k + 1) l
def Zn5 (ls : List ByteArray) : Bs := (Zw2 (Zxg 0 ls) 0 []).1
def Za4 (n low high : Int) : Bool :=
  if low ≤ n then (if n ≤ high then true else
  false) else
  false
theorem Zcx (n low high : Int) : Zak Try.prog G 70 [Iv n, Iv low, Iv high] [] (.bool (Za4 n low high)) [] := by
 refine Zb5 (fn := Try.f70) (nt := 15) rfl rfl rfl rfl ?_
 refine Zk (Zm (Zd rfl rfl (.bool false) rfl (Zb (Zc (Zk (Zm (Zf rfl rfl (Iv n) rfl (Zf rfl rfl (Iv low) rfl ?_))))))))
 by_cases h1 : low ≤ n
 refine Zn (vx := Iv n) (vy := Iv low) rfl rfl (.bool true) rfl rfl (Zhr (by omega)) ?_
 refine Zf rfl rfl (.bool true) rfl (Zf rfl rfl (Iv n) rfl (Zf rfl rfl (Iv high) rfl ?_))
 by_cases h2 : n ≤ high
 refine Zn (vx := Iv n) (vy := Iv high) rfl rfl (.bool true) rfl rfl (Zh8 (by omega)) ?_
 refine Zg rfl rfl (.bool true) rfl (Zd rfl rfl (.bool true) rfl (Zb (Zc (Zq (Zo ?_)))))
 rw [show Za4 n low high = true from by unfold Za4; rw [if_pos h1, if_pos h2]]
 exact Zi (v := .bool true) rfl rfl rfl (by kernel_rfl) rfl
 refine Zn (vx := Iv n) (vy := Iv high) rfl rfl (.bool false) rfl rfl (Zh7 (by omega)) ?_
 refine Zg rfl rfl (.bool false) rfl (Zd rfl rfl (.bool false) rfl (Zb (Zc (Zq (Zo ?_)))))
 rw [show Za4 n low high = false from by unfold Za4; rw [if_pos h1, if_neg h2]]
 exact Zi (v := .bool false) rfl rfl rfl (by kernel_rfl) rfl
 refine Zn (vx := Iv n) (vy := Iv low) rfl rfl (.bool false) rfl rfl (Zg4 (by omega)) ?_
 refine Zf rfl rfl (.bool false) rfl (Za rfl rfl (Za rfl rfl (Za rfl rfl (Zg rfl rfl (.bool false) rfl (Zd rfl rfl (.bool false) rfl (Zb (Zc (Zq (Zo ?_)))))))))
 rw [show Za4 n low high = false from by unfold Za4; rw [if_neg h1]]
 exact Zi (v := .bool false) rfl rfl rfl (by kernel_rfl) rfl
theorem Zaf {n low high : Int} (h1 : low ≤ n) (h2 : n ≤ high) : Za4 n low high = true := by unfold Za4; rw [if_pos h1, if_pos h2]
theorem Zt {n low high : Int} (h : n < low ∨ high < n) : Za4 n low high = false := by
 unfold Za4
 by_cases h1 : low ≤ n
 ·rw [if_pos h1, if_neg (by omega)]
 ·rw [if_neg h1]
def Zb4 (h : Head) : Int :=
  if 1 ≤ h.region then (if h.region ≤ 5 then (if 1 ≤ h.epoch then (if h.epoch ≤ 900000000 then (if 0 ≤ h.size then (if h.size ≤ 100000 then (if 0 ≤ h.tick then (if h.tick ≤ 900000000 then 0 else
  70) else
  70) else
  70) else
  70) else
  70) else
  70) else
  70) else
  70
theorem Zt4 (h : Head) : Zak Try.prog G 64 [Zg3 h] [] (Iv (Zb4 h)) [] := by
 refine Zb5 (fn := Try.f64) (nt := 21) rfl rfl rfl rfl ?_
 refine Za5 1 (H' := [hole]) rfl ?_
 refine Zk (Zm ?_)
 refine Zch (v := Zg3 h) (b := bxB 36 (Zhc h)) (nid := 0) (H' := [bxB 36 (Zhc h)]) rfl rfl rfl (by kernel_rfl) (by kernel_rfl) ?_
 refine Zd rfl rfl (Iv 0) rfl (Zb (Zc (Zk (Zk (Zm ?_)))))
 refine Ze (b := 0) (o := 0) (n := 0) (o' := 0) rfl rfl rfl rfl rfl ?_
 refine Zl (p := pt 0 0) (v := Iv h.region) rfl rfl rfl (by kernel_rfl) ?_
 by_cases h1 : 1 ≤ h.region
 by_cases h2 : h.region ≤ 5
 refine Zp ((Zcx (G := G) h.region 1 5).res (congrArg Value.bool (Zaf (by omega) (by omega)))) (vals := [Iv h.region, Iv 1, Iv 5]) (res' := .bool true) rfl rfl rfl rfl rfl rfl ?_
 refine Zf rfl rfl (.bool true) rfl ?_
 refine Ze (b := 0) (o := 0) (n := 1) (o' := 1) rfl rfl rfl rfl rfl ?_
 refine Zl (p := pt 0 1) (v := Iv h.epoch) rfl rfl rfl (by kernel_rfl) ?_
 by_cases h3 : 1 ≤ h.epoch
 by_cases h4 : h.epoch ≤ 900000000
 refine Zp ((Zcx (G := G) h.epoch 1 900000000).res (congrArg Value.bool (Zaf (by omega) (by omega)))) (vals := [Iv h.epoch, Iv 1, Iv 900000000]) (res' := .bool true) rfl rfl rfl rfl rfl rfl ?_
 refine Zg rfl rfl (.bool true) rfl (Zf rfl rfl (.bool true) rfl ?_)
 refine Ze (b := 0) (o := 0) (n := 2) (o' := 2) rfl rfl rfl rfl rfl ?_
 refine Zl (p := pt 0 2) (v := Iv h.size) rfl rfl rfl (by kernel_rfl) ?_
 by_cases h5 : 0 ≤ h.size
 by_cases h6 : h.size ≤ 100000
 refine Zp ((Zcx (G := G) h.size 0 100000).res (congrArg Value.bool (Zaf (by omega) (by omega)))) (vals := [Iv h.size, Iv 0, Iv 100000]) (res' := .bool true) rfl rfl rfl rfl rfl rfl ?_
 refine Zg rfl rfl (.bool true) rfl (Zf rfl rfl (.bool true) rfl ?_)
 refine Ze (b := 0) (o := 0) (n := 35) (o' := 35) rfl rfl rfl rfl rfl ?_
 refine Zl (p := pt 0 35) (v := Iv h.tick) rfl rfl rfl (by kernel_rfl) ?_
 by_cases h7 : 0 ≤ h.tick
 by_cases h8 : h.tick ≤ 900000000
 refine Zp ((Zcx (G := G) h.tick 0 900000000).res (congrArg Value.bool (Zaf (by omega) (by omega)))) (vals := [Iv h.tick, Iv 0, Iv 900000000]) (res' := .bool true) rfl rfl rfl rfl rfl rfl ?_
 refine Zg rfl rfl (.bool true) rfl (Zb (Zc (Z4 rfl (Zk (Zm (Zd rfl rfl (Iv 0) rfl (Zb (Zc (Zq (Zv (Zo ?_)))))))))))
 rw [show Zb4 h = 0 from by unfold Zb4; rw [if_pos h1, if_pos h2, if_pos h3, if_pos h4, if_pos h5, if_pos h6, if_pos h7, if_pos h8]]
 exact Zi (v := Iv 0) rfl rfl rfl (by kernel_rfl) rfl
 refine Zp ((Zcx (G := G) h.tick 0 900000000).res (congrArg Value.bool (Zt (by omega)))) (vals := [Iv h.tick, Iv 0, Iv 900000000]) (res' := .bool false) rfl rfl rfl rfl rfl rfl ?_
 refine Zg rfl rfl (.bool false) rfl (Zb (Zc (Zx rfl (Z8 (Zc (Zk (Zm (Zd rfl rfl (Iv 70) rfl (Zb (Zc (Zq (Zo ?_))))))))))))
 rw [show Zb4 h = 70 from by unfold Zb4; rw [if_pos h1, if_pos h2, if_pos h3, if_pos h4, if_pos h5, if_pos h6, if_pos h7, if_neg h8]]
 exact Zi (v := Iv 70) rfl rfl rfl (by kernel_rfl) rfl
 refine Zp ((Zcx (G := G) h.tick 0 900000000).res (congrArg Value.bool (Zt (by omega)))) (vals := [Iv h.tick, Iv 0, Iv 900000000]) (res' := .bool false) rfl rfl rfl rfl rfl rfl ?_
 refine Zg rfl rfl (.bool false) rfl (Zb (Zc (Zx rfl (Z8 (Zc (Zk (Zm (Zd rfl rfl (Iv 70) rfl (Zb (Zc (Zq (Zo ?_))))))))))))
 rw [show Zb4 h = 70 from by unfold Zb4; rw [if_pos h1, if_pos h2, if_pos h3, if_pos h4, if_pos h5, if_pos h6, if_neg h7]]
 exact Zi (v := Iv 70) rfl rfl rfl (by kernel_rfl) rfl
 refine Zp ((Zcx (G := G) h.size 0 100000).res (congrArg Value.bool (Zt (by omega)))) (vals := [Iv h.size, Iv 0, Iv 100000]) (res' := .bool false) rfl rfl rfl rfl rfl rfl ?_
 refine Zg rfl rfl (.bool false) rfl (Zf rfl rfl (.bool false) rfl (Za rfl rfl (Za rfl rfl (Za rfl rfl (Zg rfl rfl (.bool false) rfl (Zb (Zc (Zx rfl (Z8 (Zc (Zk (Zm (Zd rfl rfl (Iv 70) rfl (Zb (Zc (Zq (Zo ?_)))))))))))))))))
 rw [show Zb4 h = 70 from by unfold Zb4; rw [if_pos h1, if_pos h2, if_pos h3, if_pos h4, if_pos h5, if_neg h6]]
 exact Zi (v := Iv 70) rfl rfl rfl (by kernel_rfl) rfl
 refine Zp ((Zcx (G := G) h.size 0 100000).res (congrArg Value.bool (Zt (by omega)))) (vals := [Iv h.size, Iv 0, Iv 100000]) (res' := .bool false) rfl rfl rfl rfl rfl rfl ?_
 refine Zg rfl rfl (.bool false) rfl (Zf rfl rfl (.bool false) rfl (Za rfl rfl (Za rfl rfl (Za rfl rfl (Zg rfl rfl (.bool false) rfl (Zb (Zc (Zx rfl (Z8 (Zc (Zk (Zm (Zd rfl rfl (Iv 70) rfl (Zb (Zc (Zq (Zo ?_)))))))))))))))))
 rw [show Zb4 h = 70 from by unfold Zb4; rw [if_pos h1, if_pos h2, if_pos h3, if_pos h4, if_neg h5]]
 exact Zi (v := Iv 70) rfl rfl rfl (by kernel_rfl) rfl
 refine Zp ((Zcx (G := G) h.epoch 1 900000000).res (congrArg Value.bool (Zt (by omega)))) (vals := [Iv h.epoch, Iv 1, Iv 900000000]) (res' := .bool false) rfl rfl rfl rfl rfl rfl ?_
 refine Zg rfl rfl (.bool false) rfl (Zf rfl rfl (.bool false) rfl (Za rfl rfl (Za rfl rfl (Za rfl rfl (Zg rfl rfl (.bool false) rfl (Zf rfl rfl (.bool false) rfl (Za rfl rfl (Za rfl rfl (Za rfl rfl (Zg rfl rfl (.bool false) rfl (Zb (Zc (Zx rfl (Z8 (Zc (Zk (Zm (Zd rfl rfl (Iv 70) rfl (Zb (Zc (Zq (Zo ?_))))))))))))))))))))))
 rw [show Zb4 h = 70 from by unfold Zb4; rw [if_pos h1, if_pos h2, if_pos h3, if_neg h4]]
 exact Zi (v := Iv 70) rfl rfl rfl (by kernel_rfl) rfl
 refine Zp ((Zcx (G := G) h.epoch 1 900000000).res (congrArg Value.bool (Zt (by omega)))) (vals := [Iv h.epoch, Iv 1, Iv 900000000]) (res' := .bool false) rfl rfl rfl rfl rfl rfl ?_
 refine Zg rfl rfl (.bool false) rfl (Zf rfl rfl (.bool false) rfl (Za rfl rfl (Za rfl rfl (Za rfl rfl (Zg rfl rfl (.bool false) rfl (Zf rfl rfl (.bool false) rfl (Za rfl rfl (Za rfl rfl (Za rfl rfl (Zg rfl rfl (.bool false) rfl (Zb (Zc (Zx rfl (Z8 (Zc (Zk (Zm (Zd rfl rfl (Iv 70) rfl (Zb (Zc (Zq (Zo ?_))))))))))))))))))))))
 rw [show Zb4 h = 70 from by unfold Zb4; rw [if_pos h1, if_pos h2, if_neg h3]]
 exact Zi (v := Iv 70) rfl rfl rfl (by kernel_rfl) rfl
 refine Zp ((Zcx (G := G) h.region 1 5).res (congrArg Value.bool (Zt (by omega)))) (vals := [Iv h.region, Iv 1, Iv 5]) (res' := .bool false) rfl rfl rfl rfl rfl rfl ?_
 refine Zf rfl rfl (.bool false) rfl (Za rfl rfl (Za rfl rfl (Za rfl rfl (Zg rfl rfl (.bool false) rfl (Zf rfl rfl (.bool false) rfl (Za rfl rfl (Za rfl rfl (Za rfl rfl (Zg rfl rfl (.bool false) rfl (Zf rfl rfl (.bool false) rfl (Za rfl rfl (Za rfl rfl (Za rfl rfl (Zg rfl rfl (.bool false) rfl (Zb (Zc (Zx rfl (Z8 (Zc (Zk (Zm (Zd rfl rfl (Iv 70) rfl (Zb (Zc (Zq (Zo ?_))))))))))))))))))))))))))
 rw [show Zb4 h = 70 from by unfold Zb4; rw [if_pos h1, if_neg h2]]
 exact Zi (v := Iv 70) rfl rfl rfl (by kernel_rfl) rfl
 refine Zp ((Zcx (G := G) h.region 1 5).res (congrArg Value.bool (Zt (by omega)))) (vals := [Iv h.region, Iv 1, Iv 5]) (res' := .bool false) rfl rfl rfl rfl rfl rfl ?_
 refine Zf rfl rfl (.bool false) rfl (Za rfl rfl (Za rfl rfl (Za rfl rfl (Zg rfl rfl (.bool false) rfl (Zf rfl rfl (.bool false) rfl (Za rfl rfl (Za rfl rfl (Za rfl rfl (Zg rfl rfl (.bool false) rfl (Zf rfl rfl (.bool false) rfl (Za rfl rfl (Za rfl rfl (Za rfl rfl (Zg rfl rfl (.bool false) rfl (Zb (Zc (Zx rfl (Z8 (Zc (Zk (Zm (Zd rfl rfl (Iv 70) rfl (Zb (Zc (Zq (Zo ?_))))))))))))))))))))))))))
 rw [show Zb4 h = 70 from by unfold Zb4; rw [if_neg h1]]
 exact Zi (v := Iv 70) rfl rfl rfl (by kernel_rfl) rfl
def Zca (h : Head) : Prop := (1 ≤ h.region ∧ h.region ≤ 5) ∧ (1 ≤ h.epoch ∧ h.epoch ≤ 900000000) ∧ (0 ≤ h.size ∧ h.size ≤ 100000) ∧ (0 ≤ h.tick ∧ h.tick ≤ 900000000)
instance (h : Head) : Decidable (Zca h) := inferInstanceAs (Decidable (_ ∧ _))
theorem Zr2 (h : Head) : Zb4 h = if Zca h then 0 else 70 := by
 unfold Zb4 Zca
 repeat (first | split | omega)
def Ztc (h : Head) : List ByteArray := [(Zr3 h.region).1, (Zr3 h.epoch).1, (Zr3 h.size).1, Zer (dgL h.root), (Zr3 h.tick).1]
def Zsd (h : Head) : Bs × Int := if Zb4 h = 0 then (Zn5 (Ztc h), 0) else ([], Zb4 h)
end Go.Flat
namespace Go.Flat
open Go.Proofs
variable {G : Glob}
def Zyl (key : D) : D := fun i => if i < 32 then key i else 0
def Zxc (c : D) (x : BitVec 8) (j : Nat) : D := fun i => if i < j then c i ^^^ x else c i
def Ztf (key : D) (x : BitVec 8) : ByteArray := Zer (Zwh 64 (Zxc (Zyl key) x 64))
def Zts (kk : Nat → BitVec 32) (key : D) (s : ByteArray) : D := Zo2 kk (Zq4 [Ztf key 92#8, Zer (dgL (Zo2 kk (Zq4 [Ztf key 54#8, s])))])
def Zyi (a b : D) : Nat → BitVec 8
  | 0 => 0
  | j + 1 => Zyi a b j ||| (a j ^^^ b j)
def Zuc (kk : Nat → BitVec 32) (master : D) (region node : Int) : D × Int := if (1 ≤ region ∧ region ≤ 5) ∧ (1 ≤ node ∧ node ≤ 3) then (Zts kk master (Zer [75#8, BitVec.ofInt 8 region, BitVec.ofInt 8 node]), 0) else (dz, 50)
def Zwj (kk : Nat → BitVec 32) (master : D) (region node : Int) (s : ByteArray) (t : D) : Int :=
  if ((Zuc kk master region node).2) ≠ 0 then ((Zuc kk master region node).2) else
  if Zee 32 (Zts kk ((Zuc kk master region node).1) s) t = true then 0 else
  72
end Go.Flat
namespace Go.Flat
open Go.Proofs
variable {G : Glob}
def Zs5 : ByteArray := ⟨#[104, 101, 97, 100, 32]⟩
def Zyq : List Field → Nat
  | [] => 0
  | f :: l => f.data.size + 4 + Zyq l
def Zy1 (s : Signed) : Bs × Int := if Zb4 s.head = 0 ∧ 1 ≤ s.node ∧ s.node ≤ 3 then (Zn5 [Zer (Zsd s.head).1, (Zr3 s.node).1, Zer (dgL s.tag)], 0) else ([], 70)
def Zyt (kk : Nat → BitVec 32) (master : D) (h : Head) (node : Int) : Signed × Int :=
  if ((Zsd h).2) ≠ 0 then ((⟨(⟨0, 0, 0, dz, 0⟩ : Head), 0, dz⟩ : Signed), ((Zsd h).2)) else
  if ((Zuc kk master h.region node).2) ≠ 0 then ((⟨(⟨0, 0, 0, dz, 0⟩ : Head), 0, dz⟩ : Signed), 70) else
  ((⟨h, node, (Zts kk ((Zuc kk master h.region node).1) (Zs5 ++ (Zer ((Zsd h).1))))⟩ : Signed), 0)
def Zxw (kk : Nat → BitVec 32) (master : D) (s : Signed) : Int :=
  if ((Zsd s.head).2) ≠ 0 then 70 else
  if 1 ≤ s.node then (if s.node ≤ 3 then (Zwj kk master s.head.region s.node (Zs5 ++ (Zer ((Zsd s.head).1))) s.tag) else
  70) else
  70
end Go.Flat
namespace Go.Flat
open Go.Proofs
variable {G : Glob}
def beL : Nat → Nat → Bs → Bs
  | 0, _, l => l
  | f + 1, n, l => if n = 0 then l else beL f (n / 256) (BitVec.ofInt 8 (n : Int) :: l)
def Zx5 : Nat → List ByteArray → Bs
  | _, [] => []
  | k, x :: l => Zwv ⟨(k : Int) + 1, x⟩ ++ Zx5 (k + 1) l
theorem Zbc (n low high : Int) : Zak Try.prog G 75 [Iv n, Iv low, Iv high] [] (.bool (Za4 n low high)) [] := by
 refine Zb5 (fn := Try.f75) (nt := 15) rfl rfl rfl rfl ?_
 refine Zk (Zm (Zd rfl rfl (.bool false) rfl (Zb (Zc (Zk (Zm (Zf rfl rfl (Iv n) rfl (Zf rfl rfl (Iv low) rfl ?_))))))))
 by_cases h1 : low ≤ n
 refine Zn (vx := Iv n) (vy := Iv low) rfl rfl (.bool true) rfl rfl (Zhr (by omega)) ?_
 refine Zf rfl rfl (.bool true) rfl (Zf rfl rfl (Iv n) rfl (Zf rfl rfl (Iv high) rfl ?_))
 by_cases h2 : n ≤ high
 refine Zn (vx := Iv n) (vy := Iv high) rfl rfl (.bool true) rfl rfl (Zh8 (by omega)) ?_
 refine Zg rfl rfl (.bool true) rfl (Zd rfl rfl (.bool true) rfl (Zb (Zc (Zq (Zo ?_)))))
 rw [show Za4 n low high = true from Zaf (by omega) (by omega)]
 exact Zi (v := .bool true) rfl rfl rfl (by kernel_rfl) rfl
 refine Zn (vx := Iv n) (vy := Iv high) rfl rfl (.bool false) rfl rfl (Zh7 (by omega)) ?_
 refine Zg rfl rfl (.bool false) rfl (Zd rfl rfl (.bool false) rfl (Zb (Zc (Zq (Zo ?_)))))
 rw [show Za4 n low high = false from Zt (by omega)]
 exact Zi (v := .bool false) rfl rfl rfl (by kernel_rfl) rfl
 refine Zn (vx := Iv n) (vy := Iv low) rfl rfl (.bool false) rfl rfl (Zg4 (by omega)) ?_
 refine Zf rfl rfl (.bool false) rfl (Za rfl rfl (Za rfl rfl (Za rfl rfl (Zg rfl rfl (.bool false) rfl (Zd rfl rfl (.bool false) rfl (Zb (Zc (Zq (Zo ?_)))))))))
 rw [show Za4 n low high = false from Zt (by omega)]
 exact Zi (v := .bool false) rfl rfl rfl (by kernel_rfl) rfl
theorem Zoa (h : Head) : Zak Try.prog G 74 [Zg3 h] [] (.bool (decide (Zca h))) [] := by
 refine Zb5 (fn := Try.f74) (nt := 21) rfl rfl rfl rfl ?_
 refine Za5 1 (H' := [hole]) rfl ?_
 refine Zk (Zm ?_)
 refine Zch (v := Zg3 h) (b := bxB 36 (Zhc h)) (nid := 0) (H' := [bxB 36 (Zhc h)]) rfl rfl rfl (by kernel_rfl) (by kernel_rfl) ?_
 refine Zd rfl rfl (.bool false) rfl (Zb (Zc (Zk (Zm ?_))))
 refine Ze (b := 0) (o := 0) (n := 0) (o' := 0) rfl rfl rfl rfl rfl ?_
 refine Zl (p := pt 0 0) (v := Iv h.region) rfl rfl rfl (by kernel_rfl) ?_
 by_cases h1 : 1 ≤ h.region
 by_cases h2 : h.region ≤ 5
 refine Zp ((Zbc (G := G) h.region 1 5).res (congrArg Value.bool (Zaf (by omega) (by omega)))) (vals := [Iv h.region, Iv 1, Iv 5]) (res' := .bool true) rfl rfl rfl rfl rfl rfl ?_
 refine Zf rfl rfl (.bool true) rfl ?_
 refine Ze (b := 0) (o := 0) (n := 1) (o' := 1) rfl rfl rfl rfl rfl ?_
 refine Zl (p := pt 0 1) (v := Iv h.epoch) rfl rfl rfl (by kernel_rfl) ?_
 by_cases h3 : 1 ≤ h.epoch
 by_cases h4 : h.epoch ≤ 900000000
 refine Zp ((Zbc (G := G) h.epoch 1 900000000).res (congrArg Value.bool (Zaf (by omega) (by omega)))) (vals := [Iv h.epoch, Iv 1, Iv 900000000]) (res' := .bool true) rfl rfl rfl rfl rfl rfl ?_
 refine Zg rfl rfl (.bool true) rfl (Zf rfl rfl (.bool true) rfl ?_)
 refine Ze (b := 0) (o := 0) (n := 2) (o' := 2) rfl rfl rfl rfl rfl ?_
 refine Zl (p := pt 0 2) (v := Iv h.size) rfl rfl rfl (by kernel_rfl) ?_
 by_cases h5 : 0 ≤ h.size
 by_cases h6 : h.size ≤ 100000
 refine Zp ((Zbc (G := G) h.size 0 100000).res (congrArg Value.bool (Zaf (by omega) (by omega)))) (vals := [Iv h.size, Iv 0, Iv 100000]) (res' := .bool true) rfl rfl rfl rfl rfl rfl ?_
 refine Zg rfl rfl (.bool true) rfl (Zf rfl rfl (.bool true) rfl ?_)
 refine Ze (b := 0) (o := 0) (n := 35) (o' := 35) rfl rfl rfl rfl rfl ?_
 refine Zl (p := pt 0 35) (v := Iv h.tick) rfl rfl rfl (by kernel_rfl) ?_
 by_cases h7 : 0 ≤ h.tick
 by_cases h8 : h.tick ≤ 900000000
 refine Zp ((Zbc (G := G) h.tick 0 900000000).res (congrArg Value.bool (Zaf (by omega) (by omega)))) (vals := [Iv h.tick, Iv 0, Iv 900000000]) (res' := .bool true) rfl rfl rfl rfl rfl rfl ?_
 refine Zg rfl rfl (.bool true) rfl (Zd rfl rfl (.bool true) rfl (Zb (Zc (Zq (Zo ?_)))))
 rw [show decide (Zca h) = true from decide_eq_true (by unfold Zca; omega)]
 exact Zi (v := .bool true) rfl rfl rfl (by kernel_rfl) rfl
 refine Zp ((Zbc (G := G) h.tick 0 900000000).res (congrArg Value.bool (Zt (by omega)))) (vals := [Iv h.tick, Iv 0, Iv 900000000]) (res' := .bool false) rfl rfl rfl rfl rfl rfl ?_
 refine Zg rfl rfl (.bool false) rfl (Zd rfl rfl (.bool false) rfl (Zb (Zc (Zq (Zo ?_)))))
 rw [show decide (Zca h) = false from decide_eq_false (by unfold Zca; omega)]
 exact Zi (v := .bool false) rfl rfl rfl (by kernel_rfl) rfl
 refine Zp ((Zbc (G := G) h.tick 0 900000000).res (congrArg Value.bool (Zt (by omega)))) (vals := [Iv h.tick, Iv 0, Iv 900000000]) (res' := .bool false) rfl rfl rfl rfl rfl rfl ?_
 refine Zg rfl rfl (.bool false) rfl (Zd rfl rfl (.bool false) rfl (Zb (Zc (Zq (Zo ?_)))))
 rw [show decide (Zca h) = false from decide_eq_false (by unfold Zca; omega)]
 exact Zi (v := .bool false) rfl rfl rfl (by kernel_rfl) rfl
 refine Zp ((Zbc (G := G) h.size 0 100000).res (congrArg Value.bool (Zt (by omega)))) (vals := [Iv h.size, Iv 0, Iv 100000]) (res' := .bool false) rfl rfl rfl rfl rfl rfl ?_
 refine Zg rfl rfl (.bool false) rfl (Zf rfl rfl (.bool false) rfl (Za rfl rfl (Za rfl rfl (Za rfl rfl (Zg rfl rfl (.bool false) rfl (Zd rfl rfl (.bool false) rfl (Zb (Zc (Zq (Zo ?_))))))))))
 rw [show decide (Zca h) = false from decide_eq_false (by unfold Zca; omega)]
 exact Zi (v := .bool false) rfl rfl rfl (by kernel_rfl) rfl
 refine Zp ((Zbc (G := G) h.size 0 100000).res (congrArg Value.bool (Zt (by omega)))) (vals := [Iv h.size, Iv 0, Iv 100000]) (res' := .bool false) rfl rfl rfl rfl rfl rfl ?_
 refine Zg rfl rfl (.bool false) rfl (Zf rfl rfl (.bool false) rfl (Za rfl rfl (Za rfl rfl (Za rfl rfl (Zg rfl rfl (.bool false) rfl (Zd rfl rfl (.bool false) rfl (Zb (Zc (Zq (Zo ?_))))))))))
 rw [show decide (Zca h) = false from decide_eq_false (by unfold Zca; omega)]
 exact Zi (v := .bool false) rfl rfl rfl (by kernel_rfl) rfl
 refine Zp ((Zbc (G := G) h.epoch 1 900000000).res (congrArg Value.bool (Zt (by omega)))) (vals := [Iv h.epoch, Iv 1, Iv 900000000]) (res' := .bool false) rfl rfl rfl rfl rfl rfl ?_
 refine Zg rfl rfl (.bool false) rfl (Zf rfl rfl (.bool false) rfl (Za rfl rfl (Za rfl rfl (Za rfl rfl (Zg rfl rfl (.bool false) rfl (Zf rfl rfl (.bool false) rfl (Za rfl rfl (Za rfl rfl (Za rfl rfl (Zg rfl rfl (.bool false) rfl (Zd rfl rfl (.bool false) rfl (Zb (Zc (Zq (Zo ?_)))))))))))))))
 rw [show decide (Zca h) = false from decide_eq_false (by unfold Zca; omega)]
 exact Zi (v := .bool false) rfl rfl rfl (by kernel_rfl) rfl
 refine Zp ((Zbc (G := G) h.epoch 1 900000000).res (congrArg Value.bool (Zt (by omega)))) (vals := [Iv h.epoch, Iv 1, Iv 900000000]) (res' := .bool false) rfl rfl rfl rfl rfl rfl ?_
 refine Zg rfl rfl (.bool false) rfl (Zf rfl rfl (.bool false) rfl (Za rfl rfl (Za rfl rfl (Za rfl rfl (Zg rfl rfl (.bool false) rfl (Zf rfl rfl (.bool false) rfl (Za rfl rfl (Za rfl rfl (Za rfl rfl (Zg rfl rfl (.bool false) rfl (Zd rfl rfl (.bool false) rfl (Zb (Zc (Zq (Zo ?_)))))))))))))))
 rw [show decide (Zca h) = false from decide_eq_false (by unfold Zca; omega)]
 exact Zi (v := .bool false) rfl rfl rfl (by kernel_rfl) rfl
 refine Zp ((Zbc (G := G) h.region 1 5).res (congrArg Value.bool (Zt (by omega)))) (vals := [Iv h.region, Iv 1, Iv 5]) (res' := .bool false) rfl rfl rfl rfl rfl rfl ?_
 refine Zf rfl rfl (.bool false) rfl (Za rfl rfl (Za rfl rfl (Za rfl rfl (Zg rfl rfl (.bool false) rfl (Zf rfl rfl (.bool false) rfl (Za rfl rfl (Za rfl rfl (Za rfl rfl (Zg rfl rfl (.bool false) rfl (Zf rfl rfl (.bool false) rfl (Za rfl rfl (Za rfl rfl (Za rfl rfl (Zg rfl rfl (.bool false) rfl (Zd rfl rfl (.bool false) rfl (Zb (Zc (Zq (Zo ?_)))))))))))))))))))
 rw [show decide (Zca h) = false from decide_eq_false (by unfold Zca; omega)]
 exact Zi (v := .bool false) rfl rfl rfl (by kernel_rfl) rfl
 refine Zp ((Zbc (G := G) h.region 1 5).res (congrArg Value.bool (Zt (by omega)))) (vals := [Iv h.region, Iv 1, Iv 5]) (res' := .bool false) rfl rfl rfl rfl rfl rfl ?_
 refine Zf rfl rfl (.bool false) rfl (Za rfl rfl (Za rfl rfl (Za rfl rfl (Zg rfl rfl (.bool false) rfl (Zf rfl rfl (.bool false) rfl (Za rfl rfl (Za rfl rfl (Za rfl rfl (Zg rfl rfl (.bool false) rfl (Zf rfl rfl (.bool false) rfl (Za rfl rfl (Za rfl rfl (Za rfl rfl (Zg rfl rfl (.bool false) rfl (Zd rfl rfl (.bool false) rfl (Zb (Zc (Zq (Zo ?_)))))))))))))))))))
 rw [show decide (Zca h) = false from decide_eq_false (by unfold Zca; omega)]
 exact Zi (v := .bool false) rfl rfl rfl (by kernel_rfl) rfl
end Go.Flat
namespace Go.Flat
open Go.Proofs
variable {G : Glob}
def Zxx (s : Signed) : List ByteArray := [Zer (Zn5 (Ztc s.head)), (Zr3 s.node).1, Zer (dgL s.tag)]
def Zjp (s : Signed) : Prop := Zca s.head ∧ 1 ≤ s.node ∧ s.node ≤ 3
instance (s : Signed) : Decidable (Zjp s) := inferInstanceAs (Decidable (_ ∧ _))
def Zxo (kk : Nat → BitVec 32) (master : D) (h : Head) (node : Int) : D := Zts kk (Zts kk master (Zer [75#8, BitVec.ofInt 8 h.region, BitVec.ofInt 8 node])) (Zs5 ++ Zer (Zn5 (Ztc h)))
def Zv4 : Signed := ⟨⟨0, 0, 0, dz, 0⟩, 0, dz⟩
def Zyu (kk : Nat → BitVec 32) (master : D) (h : Head) (node : Int) : Signed × Int := if Zca h ∧ 1 ≤ node ∧ node ≤ 3 then (⟨h, node, Zxo kk master h node⟩, 0) else (Zv4, 70)
def Zxv (kk : Nat → BitVec 32) (master : D) (s : Signed) : Int := if Zjp s then (if Zee 32 (Zxo kk master s.head s.node) s.tag = true then 0 else 72) else 70
theorem Zry (s : Signed) : Zak Try.prog G 69 [Zb3 s] [] (.bool (decide (Zjp s))) [] := by
  refine Zb5 (fn := Try.f69) (nt := 11) rfl rfl rfl rfl ?_
  refine Za5 1 (H' := [hole]) rfl ?_
  refine Zk (Zm ?_)
  refine Zch (v := Zb3 s) (b := bxB 69 (Zff s)) (nid := 0) (H' := [bxB 69 (Zff s)]) rfl rfl rfl (by kernel_rfl) (by kernel_rfl) ?_
  refine Zd rfl rfl (.bool false) rfl (Zb (Zc (Zk (Zm ?_))))
  refine Ze (b := 0) (o := 0) (n := 0) (o' := 0) rfl rfl rfl rfl rfl ?_
  refine Zl (p := pt 0 0) (v := Zg3 s.head) rfl rfl rfl (by kernel_rfl) ?_
  refine Zp (Zoa (G := G) s.head) (vals := [Zg3 s.head]) (res' := .bool (decide (Zca s.head))) rfl rfl rfl rfl rfl rfl ?_
  refine Zf rfl rfl (.bool (decide (Zca s.head))) rfl ?_
  rcases Bool.eq_false_or_eq_true (decide (Zca s.head)) with h1 | h1
  refine Ze (b := 0) (o := 0) (n := 36) (o' := 36) (by exact congrArg (fun b => some (b == true)) h1) rfl rfl rfl rfl ?_
  refine Zl (p := pt 0 36) (v := Iv s.node) (by exact congrArg (fun b => some (b == true)) h1) rfl rfl (by kernel_rfl) ?_
  by_cases h2 : 1 ≤ s.node
  by_cases h3 : s.node ≤ 3
  refine Zp ((Zbc (G := G) s.node 1 3).res (congrArg Value.bool (Zaf (by omega) (by omega)))) (vals := [Iv s.node, Iv 1, Iv 3]) (res' := .bool true) (by exact congrArg (fun b => some (b == true)) h1) rfl rfl rfl rfl rfl ?_
  refine Zg rfl rfl (.bool true) (by show some (if _ then _ else _) = _; rw [h1] <;> rfl) ?_
  refine Zd rfl rfl (.bool true) rfl (Zb (Zc (Zq (Zo ?_))))
  rw [show decide (Zjp s) = true from decide_eq_true ⟨of_decide_eq_true (by assumption), by omega, by omega⟩]
  exact Zi (v := .bool true) rfl rfl rfl (by kernel_rfl) rfl
  refine Zp ((Zbc (G := G) s.node 1 3).res (congrArg Value.bool (Zt (by omega)))) (vals := [Iv s.node, Iv 1, Iv 3]) (res' := .bool false) (by exact congrArg (fun b => some (b == true)) h1) rfl rfl rfl rfl rfl ?_
  refine Zg rfl rfl (.bool false) (by show some (if _ then _ else _) = _; rw [h1] <;> rfl) ?_
  refine Zd rfl rfl (.bool false) rfl (Zb (Zc (Zq (Zo ?_))))
  rw [show decide (Zjp s) = false from decide_eq_false (fun hh => by first | (have := hh.2; omega) | (exact absurd hh.1 (of_decide_eq_false (by assumption))))]
  exact Zi (v := .bool false) rfl rfl rfl (by kernel_rfl) rfl
  refine Zp ((Zbc (G := G) s.node 1 3).res (congrArg Value.bool (Zt (by omega)))) (vals := [Iv s.node, Iv 1, Iv 3]) (res' := .bool false) (by exact congrArg (fun b => some (b == true)) h1) rfl rfl rfl rfl rfl ?_
  refine Zg rfl rfl (.bool false) (by show some (if _ then _ else _) = _; rw [h1] <;> rfl) ?_
  refine Zd rfl rfl (.bool false) rfl (Zb (Zc (Zq (Zo ?_))))
  rw [show decide (Zjp s) = false from decide_eq_false (fun hh => by first | (have := hh.2; omega) | (exact absurd hh.1 (of_decide_eq_false (by assumption))))]
  exact Zi (v := .bool false) rfl rfl rfl (by kernel_rfl) rfl
  refine Za (by exact congrArg (fun b => some (b == true)) h1) rfl ?_
  refine Za (by exact congrArg (fun b => some (b == true)) h1) rfl ?_
  refine Za (by exact congrArg (fun b => some (b == true)) h1) rfl ?_
  refine Zg rfl rfl (.bool false) (by show some (if _ then _ else _) = _; rw [h1] <;> rfl) ?_
  refine Zd rfl rfl (.bool false) rfl (Zb (Zc (Zq (Zo ?_))))
  rw [show decide (Zjp s) = false from decide_eq_false (fun hh => by first | (have := hh.2; omega) | (exact absurd hh.1 (of_decide_eq_false (by assumption))))]
  exact Zi (v := .bool false) rfl rfl rfl (by kernel_rfl) rfl
end Go.Flat
namespace Go.Flat
open Go.Proofs Go.ChangeShapes Go.WideShapes Go.RowKit
variable {G : Glob}
def Zg7 (a b : Head) : Bool := ((a.region == b.region) && ((a.epoch == b.epoch) && ((a.size == b.size) && ((Zee 32 a.root b.root) && ((a.tick == b.tick) && true)))))
theorem Zvc (a b : Head) {d : Nat} : Z1 Try.prog (Op.equalIn (d + 3) 32 (Zg3 a) (Zg3 b)) = some (Zg7 a b) :=
 eqS (P := Try.prog) (d + 2) 32 _ (Zhc a).toArray (Zhc b).toArray (fun f => if f.offset = 0 then (a.region == b.region) else if f.offset = 1 then (a.epoch == b.epoch) else if f.offset = 2 then (a.size == b.size) else if f.offset = 3 then (Zee 32 a.root b.root) else if f.offset = 35 then (a.tick == b.tick) else true) rfl (by kernel_rfl) (List.forall_mem_cons.2 ⟨⟨by decide, Iv a.region, Iv b.region, Za0 rfl rfl rfl, Za0 rfl rfl rfl, Zej rfl⟩, List.forall_mem_cons.2 ⟨⟨by decide, Iv a.epoch, Iv b.epoch, Za0 rfl rfl rfl, Za0 rfl rfl rfl, Zej rfl⟩, List.forall_mem_cons.2 ⟨⟨by decide, Iv a.size, Iv b.size, Za0 rfl rfl rfl, Za0 rfl rfl rfl, Zej rfl⟩, List.forall_mem_cons.2 ⟨⟨by decide, .agg (Zdp w8 32 a.root).toArray, .agg (Zdp w8 32 b.root).toArray, Zb6 (n := 32) rfl rfl rfl rfl rfl, Zb6 (n := 32) rfl rfl rfl rfl rfl, Zlc rfl rfl rfl⟩, List.forall_mem_cons.2 ⟨⟨by decide, Iv a.tick, Iv b.tick, Za0 rfl rfl rfl, Za0 rfl rfl rfl, Zej rfl⟩, fun _ h => absurd h (by simp)⟩⟩⟩⟩⟩)
theorem Zoh (a : Head) : Zg7 a a = true := by simp [Zg7, Zee]
def Zc4 (a b : Signed) : Bool := ((Zg7 a.head b.head) && ((a.node == b.node) && ((Zee 32 a.tag b.tag) && true)))
theorem Zm4 (a b : Signed) {d : Nat} : Z1 Try.prog (Op.equalIn (d + 4) 34 (Zb3 a) (Zb3 b)) = some (Zc4 a b) :=
 eqS (P := Try.prog) (d + 3) 34 _ (Zff a).toArray (Zff b).toArray (fun f => if f.offset = 0 then (Zg7 a.head b.head) else if f.offset = 36 then (a.node == b.node) else if f.offset = 37 then (Zee 32 a.tag b.tag) else true) rfl (by kernel_rfl) (List.forall_mem_cons.2 ⟨⟨by decide, Zg3 a.head, Zg3 b.head, Zb6 (n := 36) rfl rfl rfl rfl rfl, Zb6 (n := 36) rfl rfl rfl rfl rfl, Zvc a.head b.head⟩, List.forall_mem_cons.2 ⟨⟨by decide, Iv a.node, Iv b.node, Za0 rfl rfl rfl, Za0 rfl rfl rfl, Zej rfl⟩, List.forall_mem_cons.2 ⟨⟨by decide, .agg (Zdp w8 32 a.tag).toArray, .agg (Zdp w8 32 b.tag).toArray, Zb6 (n := 32) rfl rfl rfl rfl rfl, Zb6 (n := 32) rfl rfl rfl rfl rfl, Zlc rfl rfl rfl⟩, fun _ h => absurd h (by simp)⟩⟩⟩)
theorem Zgs {x y : Operand} (a b : Signed) : Zc1 Try.prog .eql 34 x y (Zb3 a) (Zb3 b) = some (.bool (Zc4 a b)) := Zkt (by kernel_rfl) (by kernel_rfl) (Zm4 a b (d := 9996))
theorem Zib (a : Signed) : Zc4 a a = true := by simp [Zc4, Zee, Zoh]
def okHead (a : Head) : Prop := (-9223372036854775808 ≤ a.region ∧ a.region ≤ 9223372036854775807) ∧ (-9223372036854775808 ≤ a.epoch ∧ a.epoch ≤ 9223372036854775807) ∧ (-9223372036854775808 ≤ a.size ∧ a.size ≤ 9223372036854775807) ∧ True ∧ (-9223372036854775808 ≤ a.tick ∧ a.tick ≤ 9223372036854775807) ∧ True
theorem Zqs : Zal Try.prog 32 Zhc okHead := by
 intro H encH W fuel cs x h
 obtain ⟨xs, n, _, _, hl, hxl, hel⟩ := DataW.trod_struct (P := Try.prog) (t := 32) (fs := _) rfl h
 have hl' : cs.length = 36 := hl.trans (by kernel_rfl)
 obtain ⟨a0, e0, k0⟩ := Zal.at_ (t := 3) (off := 0) (k := 1) (Zal.int (by kernel_rfl)) (hel 0 _ rfl) (by rw [hxl]; decide) rfl (by kernel_rfl) rfl
 have q0 : cs.drop 0 = [Iv a0] ++ cs.drop 1 := by rw [Zar 0 1, e0]
 obtain ⟨a1, e1, k1⟩ := Zal.at_ (t := 3) (off := 1) (k := 1) (Zal.int (by kernel_rfl)) (hel 1 _ rfl) (by rw [hxl]; decide) rfl (by kernel_rfl) rfl
 have q1 : cs.drop 1 = [Iv a1] ++ cs.drop 2 := by rw [Zar 1 1, e1]
 obtain ⟨a2, e2, k2⟩ := Zal.at_ (t := 3) (off := 2) (k := 1) (Zal.int (by kernel_rfl)) (hel 2 _ rfl) (by rw [hxl]; decide) rfl (by kernel_rfl) rfl
 have q2 : cs.drop 2 = [Iv a2] ++ cs.drop 3 := by rw [Zar 2 1, e2]
 obtain ⟨a3, e3, k3⟩ := Zal.at_ (t := 30) (off := 3) (k := 32) (Zal.bytes (n := 32) (tb := 5) (by kernel_rfl) (by kernel_rfl) (by kernel_rfl) (by kernel_rfl)) (hel 3 _ rfl) (by rw [hxl]; decide) rfl (by kernel_rfl) rfl
 have q3 : cs.drop 3 = Zdp w8 32 a3 ++ cs.drop 35 := by rw [Zar 3 32, e3]
 obtain ⟨a4, e4, k4⟩ := Zal.at_ (t := 3) (off := 35) (k := 1) (Zal.int (by kernel_rfl)) (hel 4 _ rfl) (by rw [hxl]; decide) rfl (by kernel_rfl) rfl
 have q4 : cs.drop 35 = [Iv a4] ++ cs.drop 36 := by rw [Zar 35 1, e4]
 have qe : cs.drop 36 = [] := List.drop_of_length_le (by omega)
 refine ⟨⟨a0, a1, a2, a3, a4⟩, ?_, k0, k1, k2, k3, k4, trivial⟩
 rw [List.drop_zero] at q0
 rw [q0, q1, q2, q3, q4, qe]
 simp [Zhc]
def okSigned (a : Signed) : Prop := okHead a.head ∧ (-9223372036854775808 ≤ a.node ∧ a.node ≤ 9223372036854775807) ∧ True ∧ True
theorem Znk : Zal Try.prog 34 Zff okSigned := by
 intro H encH W fuel cs x h
 obtain ⟨xs, n, _, _, hl, hxl, hel⟩ := DataW.trod_struct (P := Try.prog) (t := 34) (fs := _) rfl h
 have hl' : cs.length = 69 := hl.trans (by kernel_rfl)
 obtain ⟨a0, e0, k0⟩ := Zal.at_ (t := 32) (off := 0) (k := 36) (Zqs) (hel 0 _ rfl) (by rw [hxl]; decide) rfl (by kernel_rfl) rfl
 have q0 : cs.drop 0 = Zhc a0 ++ cs.drop 36 := by rw [Zar 0 36, e0]
 obtain ⟨a1, e1, k1⟩ := Zal.at_ (t := 3) (off := 36) (k := 1) (Zal.int (by kernel_rfl)) (hel 1 _ rfl) (by rw [hxl]; decide) rfl (by kernel_rfl) rfl
 have q1 : cs.drop 36 = [Iv a1] ++ cs.drop 37 := by rw [Zar 36 1, e1]
 obtain ⟨a2, e2, k2⟩ := Zal.at_ (t := 30) (off := 37) (k := 32) (Zal.bytes (n := 32) (tb := 5) (by kernel_rfl) (by kernel_rfl) (by kernel_rfl) (by kernel_rfl)) (hel 2 _ rfl) (by rw [hxl]; decide) rfl (by kernel_rfl) rfl
 have q2 : cs.drop 37 = Zdp w8 32 a2 ++ cs.drop 69 := by rw [Zar 37 32, e2]
 have qe : cs.drop 69 = [] := List.drop_of_length_le (by omega)
 refine ⟨⟨a0, a1, a2⟩, ?_, k0, k1, k2, trivial⟩
 rw [List.drop_zero] at q0
 rw [q0, q1, q2, qe]
 simp [Zff]
end Go.Flat
