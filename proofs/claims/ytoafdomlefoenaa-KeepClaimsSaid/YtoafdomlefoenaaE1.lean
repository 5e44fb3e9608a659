/- Walks. -/
import Derived.Test.YtoafdomlefoenaaH3
import Derived.Test.YtoafdomlefoenaaFlatG
set_option linter.unusedVariables false
set_option maxRecDepth 20000
set_option linter.unusedSimpArgs false
namespace Go.Flat
open Go.Proofs
variable {G : Glob}
structure Head where
  region : Int
  epoch : Int
  size : Int
  root : D
  tick : Int
structure Signed where
  head : Head
  node : Int
  tag : D
def Zjm (h : Head) : List Value := [.int .i64 h.region, .int .i64 h.epoch, .int .i64 h.size] ++ Zd2 w8 32 h.root ++ [.int .i64 h.tick]
def Zkp (h : Head) : Value := .agg (Zjm h).toArray
def Zhd (s : Signed) : List Value := Zjm s.head ++ [.int .i64 s.node] ++ Zd2 w8 32 s.tag
def Zio (s : Signed) : Value := .agg (Zhd s).toArray
def Zz9 : Nat → List ByteArray → List Field
  | _, [] => []
  | k, x :: l => ⟨(k : Int) + 1, x⟩ :: Zz9 (k + 1) l
def Zn7 (ls : List ByteArray) : Bs := (Zz0 (Zz9 0 ls) 0 []).1
def Zb9 (n low high : Int) : Bool :=
  if low ≤ n then (if n ≤ high then true else
  false) else
  false
theorem Zc1 (n low high : Int) : Zas Try.prog G 70 [Iv n, Iv low, Iv high] [] (.bool (Zb9 n low high)) [] := by
 refine Zcv (fn := Try.f70) (nt := 15) rfl rfl rfl rfl ?_
 refine Zj (Zl (Zc (.bool false) (Ze (Zf (Zj (Zl (Zb (Iv n) (Zb (Iv low) ?_))))))))
 by_cases h1 : low ≤ n
 refine Zn (vx := Iv n) (vy := Iv low) rfl rfl (.bool true) rfl rfl (Zhw (by omega)) ?_
 refine Zb (.bool true) (Zb (Iv n) (Zb (Iv high) ?_))
 by_cases h2 : n ≤ high
 refine Zn (vx := Iv n) (vy := Iv high) rfl rfl (.bool true) rfl rfl (Zni (by omega)) ?_
 refine Zg (.bool true) (Zc (.bool true) (Ze (Zf (Zq (Zp ?_)))))
 rw [show Zb9 n low high = true from by unfold Zb9; rw [if_pos h1, if_pos h2]]
 exact Zm (v := .bool true) rfl rfl rfl (by kernel_rfl) rfl
 refine Zn (vx := Iv n) (vy := Iv high) rfl rfl (.bool false) rfl rfl (Znh (by omega)) ?_
 refine Zg (.bool false) (Zc (.bool false) (Ze (Zf (Zq (Zp ?_)))))
 rw [show Zb9 n low high = false from by unfold Zb9; rw [if_pos h1, if_neg h2]]
 exact Zm (v := .bool false) rfl rfl rfl (by kernel_rfl) rfl
 refine Zn (vx := Iv n) (vy := Iv low) rfl rfl (.bool false) rfl rfl (Zjl (by omega)) ?_
 refine Zb (.bool false) (Za (Za (Za (Zg (.bool false) (Zc (.bool false) (Ze (Zf (Zq (Zp ?_)))))))))
 rw [show Zb9 n low high = false from by unfold Zb9; rw [if_neg h1]]
 exact Zm (v := .bool false) rfl rfl rfl (by kernel_rfl) rfl
theorem Za5 {n low high : Int} (h1 : low ≤ n) (h2 : n ≤ high) : Zb9 n low high = true := by unfold Zb9; rw [if_pos h1, if_pos h2]
theorem Z6 {n low high : Int} (h : n < low ∨ high < n) : Zb9 n low high = false := by
 unfold Zb9
 by_cases h1 : low ≤ n
 ·rw [if_pos h1, if_neg (by omega)]
 ·rw [if_neg h1]
def Zb3 (h : Head) : Int :=
  if 1 ≤ h.region then (if h.region ≤ 5 then (if 1 ≤ h.epoch then (if h.epoch ≤ 900000000 then (if 0 ≤ h.size then (if h.size ≤ 100000 then (if 0 ≤ h.tick then (if h.tick ≤ 900000000 then 0 else
  70) else
  70) else
  70) else
  70) else
  70) else
  70) else
  70) else
  70
theorem Zuc (h : Head) : Zas Try.prog G 64 [Zkp h] [] (Iv (Zb3 h)) [] := by
 refine Zcv (fn := Try.f64) (nt := 21) rfl rfl rfl rfl ?_
 refine Zbq 1 (H' := [hole]) rfl ?_
 refine Zj (Zl (Zbw (v := Zkp h) (b := bxB 36 (Zjm h)) (nid := 0) (H' := [bxB 36 (Zjm h)]) (Zc (Iv 0) (Ze (Zf (Zj (Zj (Zl (Zd (b := 0) (o := 0) (n := 0) (o' := 0) (Zi (p := pt 0 0) (v := Iv h.region) ?_))))))))))
 by_cases h1 : 1 ≤ h.region
 by_cases h2 : h.region ≤ 5
 refine Zs ((Zc1 (G := G) h.region 1 5).res (congrArg Value.bool (Za5 (by omega) (by omega)))) (vals := [Iv h.region, Iv 1, Iv 5]) (res' := .bool true) rfl rfl rfl rfl rfl rfl ?_
 refine Zb (.bool true) (Zd (b := 0) (o := 0) (n := 1) (o' := 1) (Zi (p := pt 0 1) (v := Iv h.epoch) ?_))
 by_cases h3 : 1 ≤ h.epoch
 by_cases h4 : h.epoch ≤ 900000000
 refine Zs ((Zc1 (G := G) h.epoch 1 900000000).res (congrArg Value.bool (Za5 (by omega) (by omega)))) (vals := [Iv h.epoch, Iv 1, Iv 900000000]) (res' := .bool true) rfl rfl rfl rfl rfl rfl ?_
 refine Zg (.bool true) (Zb (.bool true) (Zd (b := 0) (o := 0) (n := 2) (o' := 2) (Zi (p := pt 0 2) (v := Iv h.size) ?_)))
 by_cases h5 : 0 ≤ h.size
 by_cases h6 : h.size ≤ 100000
 refine Zs ((Zc1 (G := G) h.size 0 100000).res (congrArg Value.bool (Za5 (by omega) (by omega)))) (vals := [Iv h.size, Iv 0, Iv 100000]) (res' := .bool true) rfl rfl rfl rfl rfl rfl ?_
 refine Zg (.bool true) (Zb (.bool true) (Zd (b := 0) (o := 0) (n := 35) (o' := 35) (Zi (p := pt 0 35) (v := Iv h.tick) ?_)))
 by_cases h7 : 0 ≤ h.tick
 by_cases h8 : h.tick ≤ 900000000
 refine Zs ((Zc1 (G := G) h.tick 0 900000000).res (congrArg Value.bool (Za5 (by omega) (by omega)))) (vals := [Iv h.tick, Iv 0, Iv 900000000]) (res' := .bool true) rfl rfl rfl rfl rfl rfl ?_
 refine Zg (.bool true) (Ze (Zf (Z8 rfl (Zj (Zl (Zc (Iv 0) (Ze (Zf (Zq (Z4 (Zp ?_)))))))))))
 rw [show Zb3 h = 0 from by unfold Zb3; rw [if_pos h1, if_pos h2, if_pos h3, if_pos h4, if_pos h5, if_pos h6, if_pos h7, if_pos h8]]
 exact Zm (v := Iv 0) rfl rfl rfl (by kernel_rfl) rfl
 refine Zs ((Zc1 (G := G) h.tick 0 900000000).res (congrArg Value.bool (Z6 (by omega)))) (vals := [Iv h.tick, Iv 0, Iv 900000000]) (res' := .bool false) rfl rfl rfl rfl rfl rfl ?_
 refine Zg (.bool false) (Ze (Zf (Zw rfl (Z7 (Zf (Zj (Zl (Zc (Iv 70) (Ze (Zf (Zq (Zp ?_))))))))))))
 rw [show Zb3 h = 70 from by unfold Zb3; rw [if_pos h1, if_pos h2, if_pos h3, if_pos h4, if_pos h5, if_pos h6, if_pos h7, if_neg h8]]
 exact Zm (v := Iv 70) rfl rfl rfl (by kernel_rfl) rfl
 refine Zs ((Zc1 (G := G) h.tick 0 900000000).res (congrArg Value.bool (Z6 (by omega)))) (vals := [Iv h.tick, Iv 0, Iv 900000000]) (res' := .bool false) rfl rfl rfl rfl rfl rfl ?_
 refine Zg (.bool false) (Ze (Zf (Zw rfl (Z7 (Zf (Zj (Zl (Zc (Iv 70) (Ze (Zf (Zq (Zp ?_))))))))))))
 rw [show Zb3 h = 70 from by unfold Zb3; rw [if_pos h1, if_pos h2, if_pos h3, if_pos h4, if_pos h5, if_pos h6, if_neg h7]]
 exact Zm (v := Iv 70) rfl rfl rfl (by kernel_rfl) rfl
 refine Zs ((Zc1 (G := G) h.size 0 100000).res (congrArg Value.bool (Z6 (by omega)))) (vals := [Iv h.size, Iv 0, Iv 100000]) (res' := .bool false) rfl rfl rfl rfl rfl rfl ?_
 refine Zg (.bool false) (Zb (.bool false) (Za (Za (Za (Zg (.bool false) (Ze (Zf (Zw rfl (Z7 (Zf (Zj (Zl (Zc (Iv 70) (Ze (Zf (Zq (Zp ?_)))))))))))))))))
 rw [show Zb3 h = 70 from by unfold Zb3; rw [if_pos h1, if_pos h2, if_pos h3, if_pos h4, if_pos h5, if_neg h6]]
 exact Zm (v := Iv 70) rfl rfl rfl (by kernel_rfl) rfl
 refine Zs ((Zc1 (G := G) h.size 0 100000).res (congrArg Value.bool (Z6 (by omega)))) (vals := [Iv h.size, Iv 0, Iv 100000]) (res' := .bool false) rfl rfl rfl rfl rfl rfl ?_
 refine Zg (.bool false) (Zb (.bool false) (Za (Za (Za (Zg (.bool false) (Ze (Zf (Zw rfl (Z7 (Zf (Zj (Zl (Zc (Iv 70) (Ze (Zf (Zq (Zp ?_)))))))))))))))))
 rw [show Zb3 h = 70 from by unfold Zb3; rw [if_pos h1, if_pos h2, if_pos h3, if_pos h4, if_neg h5]]
 exact Zm (v := Iv 70) rfl rfl rfl (by kernel_rfl) rfl
 refine Zs ((Zc1 (G := G) h.epoch 1 900000000).res (congrArg Value.bool (Z6 (by omega)))) (vals := [Iv h.epoch, Iv 1, Iv 900000000]) (res' := .bool false) rfl rfl rfl rfl rfl rfl ?_
 refine Zg (.bool false) (Zb (.bool false) (Za (Za (Za (Zg (.bool false) (Zb (.bool false) (Za (Za (Za (Zg (.bool false) (Ze (Zf (Zw rfl (Z7 (Zf (Zj (Zl (Zc (Iv 70) (Ze (Zf (Zq (Zp ?_))))))))))))))))))))))
 rw [show Zb3 h = 70 from by unfold Zb3; rw [if_pos h1, if_pos h2, if_pos h3, if_neg h4]]
 exact Zm (v := Iv 70) rfl rfl rfl (by kernel_rfl) rfl
 refine Zs ((Zc1 (G := G) h.epoch 1 900000000).res (congrArg Value.bool (Z6 (by omega)))) (vals := [Iv h.epoch, Iv 1, Iv 900000000]) (res' := .bool false) rfl rfl rfl rfl rfl rfl ?_
 refine Zg (.bool false) (Zb (.bool false) (Za (Za (Za (Zg (.bool false) (Zb (.bool false) (Za (Za (Za (Zg (.bool false) (Ze (Zf (Zw rfl (Z7 (Zf (Zj (Zl (Zc (Iv 70) (Ze (Zf (Zq (Zp ?_))))))))))))))))))))))
 rw [show Zb3 h = 70 from by unfold Zb3; rw [if_pos h1, if_pos h2, if_neg h3]]
 exact Zm (v := Iv 70) rfl rfl rfl (by kernel_rfl) rfl
 refine Zs ((Zc1 (G := G) h.region 1 5).res (congrArg Value.bool (Z6 (by omega)))) (vals := [Iv h.region, Iv 1, Iv 5]) (res' := .bool false) rfl rfl rfl rfl rfl rfl ?_
 refine Zb (.bool false) (Za (Za (Za (Zg (.bool false) (Zb (.bool false) (Za (Za (Za (Zg (.bool false) (Zb (.bool false) (Za (Za (Za (Zg (.bool false) (Ze (Zf (Zw rfl (Z7 (Zf (Zj (Zl (Zc (Iv 70) (Ze (Zf (Zq (Zp ?_))))))))))))))))))))))))))
 rw [show Zb3 h = 70 from by unfold Zb3; rw [if_pos h1, if_neg h2]]
 exact Zm (v := Iv 70) rfl rfl rfl (by kernel_rfl) rfl
 refine Zs ((Zc1 (G := G) h.region 1 5).res (congrArg Value.bool (Z6 (by omega)))) (vals := [Iv h.region, Iv 1, Iv 5]) (res' := .bool false) rfl rfl rfl rfl rfl rfl ?_
 refine Zb (.bool false) (Za (Za (Za (Zg (.bool false) (Zb (.bool false) (Za (Za (Za (Zg (.bool false) (Zb (.bool false) (Za (Za (Za (Zg (.bool false) (Ze (Zf (Zw rfl (Z7 (Zf (Zj (Zl (Zc (Iv 70) (Ze (Zf (Zq (Zp ?_))))))))))))))))))))))))))
 rw [show Zb3 h = 70 from by unfold Zb3; rw [if_neg h1]]
 exact Zm (v := Iv 70) rfl rfl rfl (by kernel_rfl) rfl
def Zkf (h : Head) : Prop := (1 ≤ h.region ∧ h.region ≤ 5) ∧ (1 ≤ h.epoch ∧ h.epoch ≤ 900000000) ∧ (0 ≤ h.size ∧ h.size ≤ 100000) ∧ (0 ≤ h.tick ∧ h.tick ≤ 900000000)
instance (h : Head) : Decidable (Zkf h) := inferInstanceAs (Decidable (_ ∧ _))
theorem Ztb (h : Head) : Zb3 h = if Zkf h then 0 else 70 := by
 unfold Zb3 Zkf
 repeat (first | split | omega)
def Zu6 (h : Head) : List ByteArray := [(Ztr h.region).1, (Ztr h.epoch).1, (Ztr h.size).1, Zfh (dgL h.root), (Ztr h.tick).1]
def Ztx (h : Head) : Bs × Int := if Zb3 h = 0 then (Zn7 (Zu6 h), 0) else ([], Zb3 h)
end Go.Flat
namespace Go.Flat
open Go.Proofs
variable {G : Glob}
def Z09 (key : D) : D := fun i => if i < 32 then key i else 0
def Z0m (c : D) (x : BitVec 8) (j : Nat) : D := fun i => if i < j then c i ^^^ x else c i
def Zup (key : D) (x : BitVec 8) : ByteArray := Zfh (Zzc 64 (Z0m (Z09 key) x 64))
def Zvt (kk : Nat → BitVec 32) (key : D) (s : ByteArray) : D := Zqe kk (Zsu [Zup key 92#8, Zfh (dgL (Zqe kk (Zsu [Zup key 54#8, s])))])
def Z0w (a b : D) : Nat → BitVec 8
  | 0 => 0
  | j + 1 => Z0w a b j ||| (a j ^^^ b j)
def Zve (kk : Nat → BitVec 32) (master : D) (region node : Int) : D × Int := if (1 ≤ region ∧ region ≤ 5) ∧ (1 ≤ node ∧ node ≤ 3) then (Zvt kk master (Zfh [75#8, BitVec.ofInt 8 region, BitVec.ofInt 8 node]), 0) else (dz, 50)
def Zyw (kk : Nat → BitVec 32) (master : D) (region node : Int) (s : ByteArray) (t : D) : Int :=
  if ((Zve kk master region node).2) ≠ 0 then ((Zve kk master region node).2) else
  if Zdn 32 (Zvt kk ((Zve kk master region node).1) s) t = true then 0 else
  72
end Go.Flat
namespace Go.Flat
open Go.Proofs
variable {G : Glob}
def Zvu : ByteArray := ⟨#[104, 101, 97, 100, 32]⟩
def Z1k : List Field → Nat
  | [] => 0
  | f :: l => f.data.size + 4 + Z1k l
def Z1u (s : Signed) : Bs × Int := if Zb3 s.head = 0 ∧ 1 ≤ s.node ∧ s.node ≤ 3 then (Zn7 [Zfh (Ztx s.head).1, (Ztr s.node).1, Zfh (dgL s.tag)], 0) else ([], 70)
def Z1y (kk : Nat → BitVec 32) (master : D) (h : Head) (node : Int) : Signed × Int :=
  if ((Ztx h).2) ≠ 0 then ((⟨(⟨0, 0, 0, dz, 0⟩ : Head), 0, dz⟩ : Signed), ((Ztx h).2)) else
  if ((Zve kk master h.region node).2) ≠ 0 then ((⟨(⟨0, 0, 0, dz, 0⟩ : Head), 0, dz⟩ : Signed), 70) else
  ((⟨h, node, (Zvt kk ((Zve kk master h.region node).1) (Zvu ++ (Zfh ((Ztx h).1))))⟩ : Signed), 0)
def Z0t (kk : Nat → BitVec 32) (master : D) (s : Signed) : Int :=
  if ((Ztx s.head).2) ≠ 0 then 70 else
  if 1 ≤ s.node then (if s.node ≤ 3 then (Zyw kk master s.head.region s.node (Zvu ++ (Zfh ((Ztx s.head).1))) s.tag) else
  70) else
  70
end Go.Flat
namespace Go.Flat
open Go.Proofs
variable {G : Glob}
def beL : Nat → Nat → Bs → Bs
  | 0, _, l => l
  | f + 1, n, l => if n = 0 then l else beL f (n / 256) (BitVec.ofInt 8 (n : Int) :: l)
def Z1g : Nat → List ByteArray → Bs
  | _, [] => []
  | k, x :: l => Zzn ⟨(k : Int) + 1, x⟩ ++ Z1g (k + 1) l
end Go.Flat
namespace Go.Flat
open Go.Proofs
variable {G : Glob}
def Z0r (s : Signed) : List ByteArray := [Zfh (Zn7 (Zu6 s.head)), (Ztr s.node).1, Zfh (dgL s.tag)]
def Zxj (s : Signed) : Prop := Zkf s.head ∧ 1 ≤ s.node ∧ s.node ≤ 3
instance (s : Signed) : Decidable (Zxj s) := inferInstanceAs (Decidable (_ ∧ _))
def Z0i (kk : Nat → BitVec 32) (master : D) (h : Head) (node : Int) : D := Zvt kk (Zvt kk master (Zfh [75#8, BitVec.ofInt 8 h.region, BitVec.ofInt 8 node])) (Zvu ++ Zfh (Zn7 (Zu6 h)))
def Zyg : Signed := ⟨⟨0, 0, 0, dz, 0⟩, 0, dz⟩
def Z1z (kk : Nat → BitVec 32) (master : D) (h : Head) (node : Int) : Signed × Int := if Zkf h ∧ 1 ≤ node ∧ node ≤ 3 then (⟨h, node, Z0i kk master h node⟩, 0) else (Zyg, 70)
def Z0u (kk : Nat → BitVec 32) (master : D) (s : Signed) : Int := if Zxj s then (if Zdn 32 (Z0i kk master s.head s.node) s.tag = true then 0 else 72) else 70
end Go.Flat
namespace Go.Flat
open Go.Proofs Go.ChangeShapes Go.WideShapes Go.RowKit
variable {G : Glob}
def Zhu (a b : Head) : Bool := ((a.region == b.region) && ((a.epoch == b.epoch) && ((a.size == b.size) && ((Zdn 32 a.root b.root) && ((a.tick == b.tick) && true)))))
theorem Zw0 (a b : Head) {d : Nat} : Zz Try.prog (Op.equalIn (d + 3) 32 (Zkp a) (Zkp b)) = some (Zhu a b) :=
 eqS (P := Try.prog) (d + 2) 32 _ (Zjm a).toArray (Zjm b).toArray (fun f => if f.offset = 0 then (a.region == b.region) else if f.offset = 1 then (a.epoch == b.epoch) else if f.offset = 2 then (a.size == b.size) else if f.offset = 3 then (Zdn 32 a.root b.root) else if f.offset = 35 then (a.tick == b.tick) else true) rfl (by kernel_rfl) (List.forall_mem_cons.2 ⟨⟨by decide, Iv a.region, Iv b.region, Zay rfl rfl rfl, Zay rfl rfl rfl, Zew rfl⟩, List.forall_mem_cons.2 ⟨⟨by decide, Iv a.epoch, Iv b.epoch, Zay rfl rfl rfl, Zay rfl rfl rfl, Zew rfl⟩, List.forall_mem_cons.2 ⟨⟨by decide, Iv a.size, Iv b.size, Zay rfl rfl rfl, Zay rfl rfl rfl, Zew rfl⟩, List.forall_mem_cons.2 ⟨⟨by decide, .agg (Zd2 w8 32 a.root).toArray, .agg (Zd2 w8 32 b.root).toArray, Zb6 (n := 32) rfl rfl rfl rfl rfl, Zb6 (n := 32) rfl rfl rfl rfl rfl, Zlp rfl rfl rfl⟩, List.forall_mem_cons.2 ⟨⟨by decide, Iv a.tick, Iv b.tick, Zay rfl rfl rfl, Zay rfl rfl rfl, Zew rfl⟩, fun _ h => absurd h (by simp)⟩⟩⟩⟩⟩)
theorem Zpf (a : Head) : Zhu a a = true := by simp [Zhu, Zdn]
def Zed (a b : Signed) : Bool := ((Zhu a.head b.head) && ((a.node == b.node) && ((Zdn 32 a.tag b.tag) && true)))
theorem Zte (a b : Signed) {d : Nat} : Zz Try.prog (Op.equalIn (d + 4) 34 (Zio a) (Zio b)) = some (Zed a b) :=
 eqS (P := Try.prog) (d + 3) 34 _ (Zhd a).toArray (Zhd b).toArray (fun f => if f.offset = 0 then (Zhu a.head b.head) else if f.offset = 36 then (a.node == b.node) else if f.offset = 37 then (Zdn 32 a.tag b.tag) else true) rfl (by kernel_rfl) (List.forall_mem_cons.2 ⟨⟨by decide, Zkp a.head, Zkp b.head, Zb6 (n := 36) rfl rfl rfl rfl rfl, Zb6 (n := 36) rfl rfl rfl rfl rfl, Zw0 a.head b.head⟩, List.forall_mem_cons.2 ⟨⟨by decide, Iv a.node, Iv b.node, Zay rfl rfl rfl, Zay rfl rfl rfl, Zew rfl⟩, List.forall_mem_cons.2 ⟨⟨by decide, .agg (Zd2 w8 32 a.tag).toArray, .agg (Zd2 w8 32 b.tag).toArray, Zb6 (n := 32) rfl rfl rfl rfl rfl, Zb6 (n := 32) rfl rfl rfl rfl rfl, Zlp rfl rfl rfl⟩, fun _ h => absurd h (by simp)⟩⟩⟩)
theorem Ziv (a : Signed) : Zed a a = true := by simp [Zed, Zdn, Zpf]
def okHead (a : Head) : Prop := (-9223372036854775808 ≤ a.region ∧ a.region ≤ 9223372036854775807) ∧ (-9223372036854775808 ≤ a.epoch ∧ a.epoch ≤ 9223372036854775807) ∧ (-9223372036854775808 ≤ a.size ∧ a.size ≤ 9223372036854775807) ∧ True ∧ (-9223372036854775808 ≤ a.tick ∧ a.tick ≤ 9223372036854775807) ∧ True
theorem Zq7 : Zao Try.prog 32 Zjm okHead := by
 intro H encH W fuel cs x h
 obtain ⟨xs, n, _, _, hl, hxl, hel⟩ := DataW.trod_struct (P := Try.prog) (t := 32) (fs := _) rfl h
 have hl' : cs.length = 36 := hl.trans (by kernel_rfl)
 obtain ⟨a0, e0, k0⟩ := Zao.at_ (t := 3) (off := 0) (k := 1) (Zao.int (by kernel_rfl)) (hel 0 _ rfl) (by rw [hxl]; decide) rfl (by kernel_rfl) rfl
 have q0 : cs.drop 0 = [Iv a0] ++ cs.drop 1 := by rw [Zaz 0 1, e0]
 obtain ⟨a1, e1, k1⟩ := Zao.at_ (t := 3) (off := 1) (k := 1) (Zao.int (by kernel_rfl)) (hel 1 _ rfl) (by rw [hxl]; decide) rfl (by kernel_rfl) rfl
 have q1 : cs.drop 1 = [Iv a1] ++ cs.drop 2 := by rw [Zaz 1 1, e1]
 obtain ⟨a2, e2, k2⟩ := Zao.at_ (t := 3) (off := 2) (k := 1) (Zao.int (by kernel_rfl)) (hel 2 _ rfl) (by rw [hxl]; decide) rfl (by kernel_rfl) rfl
 have q2 : cs.drop 2 = [Iv a2] ++ cs.drop 3 := by rw [Zaz 2 1, e2]
 obtain ⟨a3, e3, k3⟩ := Zao.at_ (t := 30) (off := 3) (k := 32) (Zao.bytes (n := 32) (tb := 5) (by kernel_rfl) (by kernel_rfl) (by kernel_rfl) (by kernel_rfl)) (hel 3 _ rfl) (by rw [hxl]; decide) rfl (by kernel_rfl) rfl
 have q3 : cs.drop 3 = Zd2 w8 32 a3 ++ cs.drop 35 := by rw [Zaz 3 32, e3]
 obtain ⟨a4, e4, k4⟩ := Zao.at_ (t := 3) (off := 35) (k := 1) (Zao.int (by kernel_rfl)) (hel 4 _ rfl) (by rw [hxl]; decide) rfl (by kernel_rfl) rfl
 have q4 : cs.drop 35 = [Iv a4] ++ cs.drop 36 := by rw [Zaz 35 1, e4]
 have qe : cs.drop 36 = [] := List.drop_of_length_le (by omega)
 refine ⟨⟨a0, a1, a2, a3, a4⟩, ?_, k0, k1, k2, k3, k4, trivial⟩
 rw [List.drop_zero] at q0
 rw [q0, q1, q2, q3, q4, qe]
 simp [Zjm]
def okSigned (a : Signed) : Prop := okHead a.head ∧ (-9223372036854775808 ≤ a.node ∧ a.node ≤ 9223372036854775807) ∧ True ∧ True
theorem Zom : Zao Try.prog 34 Zhd okSigned := by
 intro H encH W fuel cs x h
 obtain ⟨xs, n, _, _, hl, hxl, hel⟩ := DataW.trod_struct (P := Try.prog) (t := 34) (fs := _) rfl h
 have hl' : cs.length = 69 := hl.trans (by kernel_rfl)
 obtain ⟨a0, e0, k0⟩ := Zao.at_ (t := 32) (off := 0) (k := 36) (Zq7) (hel 0 _ rfl) (by rw [hxl]; decide) rfl (by kernel_rfl) rfl
 have q0 : cs.drop 0 = Zjm a0 ++ cs.drop 36 := by rw [Zaz 0 36, e0]
 obtain ⟨a1, e1, k1⟩ := Zao.at_ (t := 3) (off := 36) (k := 1) (Zao.int (by kernel_rfl)) (hel 1 _ rfl) (by rw [hxl]; decide) rfl (by kernel_rfl) rfl
 have q1 : cs.drop 36 = [Iv a1] ++ cs.drop 37 := by rw [Zaz 36 1, e1]
 obtain ⟨a2, e2, k2⟩ := Zao.at_ (t := 30) (off := 37) (k := 32) (Zao.bytes (n := 32) (tb := 5) (by kernel_rfl) (by kernel_rfl) (by kernel_rfl) (by kernel_rfl)) (hel 2 _ rfl) (by rw [hxl]; decide) rfl (by kernel_rfl) rfl
 have q2 : cs.drop 37 = Zd2 w8 32 a2 ++ cs.drop 69 := by rw [Zaz 37 32, e2]
 have qe : cs.drop 69 = [] := List.drop_of_length_le (by omega)
 refine ⟨⟨a0, a1, a2⟩, ?_, k0, k1, k2, trivial⟩
 rw [List.drop_zero] at q0
 rw [q0, q1, q2, qe]
 simp [Zhd]
end Go.Flat
namespace Go.Flat
open Go.Proofs
variable {G : Glob}
instance : LawfulBEq ByteArray where
  eq_of_beq := by
    intro a b h
    obtain ⟨x⟩ := a; obtain ⟨y⟩ := b
    exact congrArg ByteArray.mk (eq_of_beq (show (x == y) = true from h))
  rfl := by
    intro a
    obtain ⟨x⟩ := a
    exact (BEq.rfl : (x == x) = true)
structure Claim where
  region : Int
  epoch : Int
  node : Int
  size : Int
  root : D
instance : Inhabited Claim := ⟨⟨0, 0, 0, 0, dz⟩⟩
def Zo (c : Claim) : List Value := [.int .i64 c.region, .int .i64 c.epoch, .int .i64 c.node, .int .i64 c.size] ++ Zd2 w8 32 c.root
def Zv (c : Claim) : Value := .agg (Zo c).toArray
def Zh : Cod Claim := ⟨Zo, 36, fun _ => rfl, by decide⟩
structure Entry where
  kind : Int
  client : Int
  seq : Int
  text : ByteArray
  head : Signed
  claim : Claim
def Z0n : Claim := ⟨0, 0, 0, 0, dz⟩
def Zyf : Entry := ⟨0, 0, 0, ⟨#[]⟩, Zyg, Z0n⟩
instance : Inhabited Entry := ⟨Zyf⟩
def Zdb (e : Entry) : List Value := [.int .i64 e.kind, .int .i64 e.client, .int .i64 e.seq, .string e.text] ++ (Zhd e.head ++ Zo e.claim)
def Zdc (e : Entry) : Value := .agg (Zdb e).toArray
def Z11 : Cod Entry := ⟨Zdb, 109, fun _ => rfl, by decide⟩
structure Item where
  epoch : Int
  entry : Entry
instance : Inhabited Item := ⟨⟨0, Zyf⟩⟩
def Zt (x : Item) : List Value := .int .i64 x.epoch :: Zdb x.entry
def Zan (x : Item) : Value := .agg (Zt x).toArray
def Zk : Cod Item := ⟨Zt, 110, fun _ => rfl, by decide⟩
def Zck (c : Claim) : Prop := (1 ≤ c.region ∧ c.region ≤ 5) ∧ (1 ≤ c.epoch ∧ c.epoch ≤ 900000000) ∧ (1 ≤ c.node ∧ c.node ≤ 3) ∧ (0 ≤ c.size ∧ c.size ≤ 100000)
instance (c : Claim) : Decidable (Zck c) := inferInstanceAs (Decidable (_ ∧ _))
def Zdv (c : Claim) : Int := if Zck c then 0 else 60
theorem Zo5 {c : Claim} (h : Zdv c = 0) : Zck c := by
 unfold Zdv at h
 split at h
 ·assumption
 ·omega
theorem Zo4 {c : Claim} (h : ¬ Zdv c = 0) : ¬ Zck c := fun q => h (if_pos q)
section
open Go.ChangeShapes Go.WideShapes Go.RowKit
def Zr (a b : Claim) : Bool := ((a.region == b.region) && ((a.epoch == b.epoch) && ((a.node == b.node) && ((a.size == b.size) && ((Zdn 32 a.root b.root) && true)))))
theorem Zlo (a b : Claim) {d : Nat} : Zz Try.prog (Op.equalIn (d + 3) 36 (Zv a) (Zv b)) = some (Zr a b) :=
 eqS (P := Try.prog) (d + 2) 36 _ (Zo a).toArray (Zo b).toArray (fun f => if f.offset = 0 then (a.region == b.region) else if f.offset = 1 then (a.epoch == b.epoch) else if f.offset = 2 then (a.node == b.node) else if f.offset = 3 then (a.size == b.size) else if f.offset = 4 then (Zdn 32 a.root b.root) else true) rfl (by kernel_rfl) (List.forall_mem_cons.2 ⟨⟨by decide, Iv a.region, Iv b.region, Zay rfl rfl rfl, Zay rfl rfl rfl, Zew rfl⟩, List.forall_mem_cons.2 ⟨⟨by decide, Iv a.epoch, Iv b.epoch, Zay rfl rfl rfl, Zay rfl rfl rfl, Zew rfl⟩, List.forall_mem_cons.2 ⟨⟨by decide, Iv a.node, Iv b.node, Zay rfl rfl rfl, Zay rfl rfl rfl, Zew rfl⟩, List.forall_mem_cons.2 ⟨⟨by decide, Iv a.size, Iv b.size, Zay rfl rfl rfl, Zay rfl rfl rfl, Zew rfl⟩, List.forall_mem_cons.2 ⟨⟨by decide, .agg (Zd2 w8 32 a.root).toArray, .agg (Zd2 w8 32 b.root).toArray, Zb6 (n := 32) rfl rfl rfl rfl rfl, Zb6 (n := 32) rfl rfl rfl rfl rfl, Zlp rfl rfl rfl⟩, fun _ h => absurd h (by simp)⟩⟩⟩⟩⟩)
theorem Zcr {x y : Operand} (a b : Claim) : Zc5 Try.prog .eql 36 x y (Zv a) (Zv b) = some (.bool (Zr a b)) := Zod (by kernel_rfl) (by kernel_rfl) (Zlo a b (d := 9997))
theorem Zik {x y : Operand} (a b : Claim) : Zc5 Try.prog .neq 36 x y (Zv a) (Zv b) = some (.bool (!Zr a b)) := Zsv (by kernel_rfl) (by kernel_rfl) (Zlo a b (d := 9997))
theorem Zaq (a : Claim) : Zr a a = true := by simp [Zr, Zdn]
def okClaim (a : Claim) : Prop := (-9223372036854775808 ≤ a.region ∧ a.region ≤ 9223372036854775807) ∧ (-9223372036854775808 ≤ a.epoch ∧ a.epoch ≤ 9223372036854775807) ∧ (-9223372036854775808 ≤ a.node ∧ a.node ≤ 9223372036854775807) ∧ (-9223372036854775808 ≤ a.size ∧ a.size ≤ 9223372036854775807) ∧ True ∧ True
theorem Zge : Zao Try.prog 36 Zo okClaim := by
 intro H encH W fuel cs x h
 obtain ⟨xs, n, _, _, hl, hxl, hel⟩ := DataW.trod_struct (P := Try.prog) (t := 36) (fs := _) rfl h
 have hl' : cs.length = 36 := hl.trans (by kernel_rfl)
 obtain ⟨a0, e0, k0⟩ := Zao.at_ (t := 3) (off := 0) (k := 1) (Zao.int (by kernel_rfl)) (hel 0 _ rfl) (by rw [hxl]; decide) rfl (by kernel_rfl) rfl
 have q0 : cs.drop 0 = [Iv a0] ++ cs.drop 1 := by rw [Zaz 0 1, e0]
 obtain ⟨a1, e1, k1⟩ := Zao.at_ (t := 3) (off := 1) (k := 1) (Zao.int (by kernel_rfl)) (hel 1 _ rfl) (by rw [hxl]; decide) rfl (by kernel_rfl) rfl
 have q1 : cs.drop 1 = [Iv a1] ++ cs.drop 2 := by rw [Zaz 1 1, e1]
 obtain ⟨a2, e2, k2⟩ := Zao.at_ (t := 3) (off := 2) (k := 1) (Zao.int (by kernel_rfl)) (hel 2 _ rfl) (by rw [hxl]; decide) rfl (by kernel_rfl) rfl
 have q2 : cs.drop 2 = [Iv a2] ++ cs.drop 3 := by rw [Zaz 2 1, e2]
 obtain ⟨a3, e3, k3⟩ := Zao.at_ (t := 3) (off := 3) (k := 1) (Zao.int (by kernel_rfl)) (hel 3 _ rfl) (by rw [hxl]; decide) rfl (by kernel_rfl) rfl
 have q3 : cs.drop 3 = [Iv a3] ++ cs.drop 4 := by rw [Zaz 3 1, e3]
 obtain ⟨a4, e4, k4⟩ := Zao.at_ (t := 30) (off := 4) (k := 32) (Zao.bytes (n := 32) (tb := 5) (by kernel_rfl) (by kernel_rfl) (by kernel_rfl) (by kernel_rfl)) (hel 4 _ rfl) (by rw [hxl]; decide) rfl (by kernel_rfl) rfl
 have q4 : cs.drop 4 = Zd2 w8 32 a4 ++ cs.drop 36 := by rw [Zaz 4 32, e4]
 have qe : cs.drop 36 = [] := List.drop_of_length_le (by omega)
 refine ⟨⟨a0, a1, a2, a3, a4⟩, ?_, k0, k1, k2, k3, k4, trivial⟩
 rw [List.drop_zero] at q0
 rw [q0, q1, q2, q3, q4, qe]
 simp [Zo]
theorem Zl0 (a : Claim) : Zbf (Zv a) = true := by kernel_rfl
def Zfl (a b : Entry) : Bool := ((a.kind == b.kind) && ((a.client == b.client) && ((a.seq == b.seq) && ((a.text == b.text) && ((Zed a.head b.head) && ((Zr a.claim b.claim) && true))))))
theorem Zpg (a b : Entry) {d : Nat} : Zz Try.prog (Op.equalIn (d + 5) 38 (Zdc a) (Zdc b)) = some (Zfl a b) :=
 eqS (P := Try.prog) (d + 4) 38 _ (Zdb a).toArray (Zdb b).toArray (fun f => if f.offset = 0 then (a.kind == b.kind) else if f.offset = 1 then (a.client == b.client) else if f.offset = 2 then (a.seq == b.seq) else if f.offset = 3 then (a.text == b.text) else if f.offset = 4 then (Zed a.head b.head) else if f.offset = 73 then (Zr a.claim b.claim) else true) rfl (by kernel_rfl) (List.forall_mem_cons.2 ⟨⟨by decide, Iv a.kind, Iv b.kind, Zay rfl rfl rfl, Zay rfl rfl rfl, Zew rfl⟩, List.forall_mem_cons.2 ⟨⟨by decide, Iv a.client, Iv b.client, Zay rfl rfl rfl, Zay rfl rfl rfl, Zew rfl⟩, List.forall_mem_cons.2 ⟨⟨by decide, Iv a.seq, Iv b.seq, Zay rfl rfl rfl, Zay rfl rfl rfl, Zew rfl⟩, List.forall_mem_cons.2 ⟨⟨by decide, .string a.text, .string b.text, Zay rfl rfl rfl, Zay rfl rfl rfl, Ztf rfl⟩, List.forall_mem_cons.2 ⟨⟨by decide, Zio a.head, Zio b.head, Zb6 (n := 69) rfl rfl rfl rfl rfl, Zb6 (n := 69) rfl rfl rfl rfl rfl, Zte a.head b.head⟩, List.forall_mem_cons.2 ⟨⟨by decide, Zv a.claim, Zv b.claim, Zb6 (n := 36) rfl rfl rfl rfl rfl, Zb6 (n := 36) rfl rfl rfl rfl rfl, Zlo a.claim b.claim⟩, fun _ h => absurd h (by simp)⟩⟩⟩⟩⟩⟩)
theorem Zfy {x y : Operand} (a b : Entry) : Zc5 Try.prog .eql 38 x y (Zdc a) (Zdc b) = some (.bool (Zfl a b)) := Zod (by kernel_rfl) (by kernel_rfl) (Zpg a b (d := 9995))
theorem Zqx (a : Entry) : Zfl a a = true := by simp [Zfl, Zdn, Ziv, Zaq]
def okEntry (a : Entry) : Prop := (-9223372036854775808 ≤ a.kind ∧ a.kind ≤ 9223372036854775807) ∧ (-9223372036854775808 ≤ a.client ∧ a.client ≤ 9223372036854775807) ∧ (-9223372036854775808 ≤ a.seq ∧ a.seq ≤ 9223372036854775807) ∧ (a.text.size ≤ maxLen) ∧ okSigned a.head ∧ okClaim a.claim ∧ True
theorem Zpw : Zao Try.prog 38 Zdb okEntry := by
 intro H encH W fuel cs x h
 obtain ⟨xs, n, _, _, hl, hxl, hel⟩ := DataW.trod_struct (P := Try.prog) (t := 38) (fs := _) rfl h
 have hl' : cs.length = 109 := hl.trans (by kernel_rfl)
 obtain ⟨a0, e0, k0⟩ := Zao.at_ (t := 28) (off := 0) (k := 1) (Zao.int (by kernel_rfl)) (hel 0 _ rfl) (by rw [hxl]; decide) rfl (by kernel_rfl) rfl
 have q0 : cs.drop 0 = [Iv a0] ++ cs.drop 1 := by rw [Zaz 0 1, e0]
 obtain ⟨a1, e1, k1⟩ := Zao.at_ (t := 3) (off := 1) (k := 1) (Zao.int (by kernel_rfl)) (hel 1 _ rfl) (by rw [hxl]; decide) rfl (by kernel_rfl) rfl
 have q1 : cs.drop 1 = [Iv a1] ++ cs.drop 2 := by rw [Zaz 1 1, e1]
 obtain ⟨a2, e2, k2⟩ := Zao.at_ (t := 3) (off := 2) (k := 1) (Zao.int (by kernel_rfl)) (hel 2 _ rfl) (by rw [hxl]; decide) rfl (by kernel_rfl) rfl
 have q2 : cs.drop 2 = [Iv a2] ++ cs.drop 3 := by rw [Zaz 2 1, e2]
 obtain ⟨a3, e3, k3⟩ := Zao.at_ (t := 9) (off := 3) (k := 1) (Zao.str (by kernel_rfl)) (hel 3 _ rfl) (by rw [hxl]; decide) rfl (by kernel_rfl) rfl
 have q3 : cs.drop 3 = [.string a3] ++ cs.drop 4 := by rw [Zaz 3 1, e3]
 obtain ⟨a4, e4, k4⟩ := Zao.at_ (t := 34) (off := 4) (k := 69) (Zom) (hel 4 _ rfl) (by rw [hxl]; decide) rfl (by kernel_rfl) rfl
 have q4 : cs.drop 4 = Zhd a4 ++ cs.drop 73 := by rw [Zaz 4 69, e4]
 obtain ⟨a5, e5, k5⟩ := Zao.at_ (t := 36) (off := 73) (k := 36) (Zge) (hel 5 _ rfl) (by rw [hxl]; decide) rfl (by kernel_rfl) rfl
 have q5 : cs.drop 73 = Zo a5 ++ cs.drop 109 := by rw [Zaz 73 36, e5]
 have qe : cs.drop 109 = [] := List.drop_of_length_le (by omega)
 refine ⟨⟨a0, a1, a2, a3, a4, a5⟩, ?_, k0, k1, k2, k3, k4, k5, trivial⟩
 rw [List.drop_zero] at q0
 rw [q0, q1, q2, q3, q4, q5, qe]
 simp [Zdb]
def Z5 (a b : Item) : Bool := ((a.epoch == b.epoch) && ((Zfl a.entry b.entry) && true))
theorem Zsf (a b : Item) {d : Nat} : Zz Try.prog (Op.equalIn (d + 6) 40 (Zan a) (Zan b)) = some (Z5 a b) :=
 eqS (P := Try.prog) (d + 5) 40 _ (Zt a).toArray (Zt b).toArray (fun f => if f.offset = 0 then (a.epoch == b.epoch) else if f.offset = 1 then (Zfl a.entry b.entry) else true) rfl (by kernel_rfl) (List.forall_mem_cons.2 ⟨⟨by decide, Iv a.epoch, Iv b.epoch, Zay rfl rfl rfl, Zay rfl rfl rfl, Zew rfl⟩, List.forall_mem_cons.2 ⟨⟨by decide, Zdc a.entry, Zdc b.entry, Zb6 (n := 109) rfl rfl rfl rfl rfl, Zb6 (n := 109) rfl rfl rfl rfl rfl, Zpg a.entry b.entry⟩, fun _ h => absurd h (by simp)⟩⟩)
theorem Zex {x y : Operand} (a b : Item) : Zc5 Try.prog .eql 40 x y (Zan a) (Zan b) = some (.bool (Z5 a b)) := Zod (by kernel_rfl) (by kernel_rfl) (Zsf a b (d := 9994))
theorem Zpu {x y : Operand} (a b : Item) : Zc5 Try.prog .neq 40 x y (Zan a) (Zan b) = some (.bool (!Z5 a b)) := Zsv (by kernel_rfl) (by kernel_rfl) (Zsf a b (d := 9994))
theorem Za2 (a : Item) : Z5 a a = true := by simp [Z5, Zdn, Zqx]
def okItem (a : Item) : Prop := (-9223372036854775808 ≤ a.epoch ∧ a.epoch ≤ 9223372036854775807) ∧ okEntry a.entry ∧ True
theorem Zq8 : Zao Try.prog 40 Zt okItem := by
 intro H encH W fuel cs x h
 obtain ⟨xs, n, _, _, hl, hxl, hel⟩ := DataW.trod_struct (P := Try.prog) (t := 40) (fs := _) rfl h
 have hl' : cs.length = 110 := hl.trans (by kernel_rfl)
 obtain ⟨a0, e0, k0⟩ := Zao.at_ (t := 3) (off := 0) (k := 1) (Zao.int (by kernel_rfl)) (hel 0 _ rfl) (by rw [hxl]; decide) rfl (by kernel_rfl) rfl
 have q0 : cs.drop 0 = [Iv a0] ++ cs.drop 1 := by rw [Zaz 0 1, e0]
 obtain ⟨a1, e1, k1⟩ := Zao.at_ (t := 38) (off := 1) (k := 109) (Zpw) (hel 1 _ rfl) (by rw [hxl]; decide) rfl (by kernel_rfl) rfl
 have q1 : cs.drop 1 = Zdb a1 ++ cs.drop 110 := by rw [Zaz 1 109, e1]
 have qe : cs.drop 110 = [] := List.drop_of_length_le (by omega)
 refine ⟨⟨a0, a1⟩, ?_, k0, k1, trivial⟩
 rw [List.drop_zero] at q0
 rw [q0, q1, qe]
 simp [Zt]
end
theorem Za0 (n low high : Int) : Zas Try.prog G 59 [Iv n, Iv low, Iv high] [] (.bool (Zb9 n low high)) [] := by
 refine Zcv (fn := Try.f59) (nt := 15) rfl rfl rfl rfl ?_
 refine Zj (Zl (Zc (.bool false) (Ze (Zf (Zj (Zl (Zb (Iv n) (Zb (Iv low) ?_))))))))
 by_cases h1 : low ≤ n
 refine Zn (vx := Iv n) (vy := Iv low) rfl rfl (.bool true) rfl rfl (Zhw (by omega)) ?_
 refine Zb (.bool true) (Zb (Iv n) (Zb (Iv high) ?_))
 by_cases h2 : n ≤ high
 refine Zn (vx := Iv n) (vy := Iv high) rfl rfl (.bool true) rfl rfl (Zni (by omega)) ?_
 refine Zg (.bool true) (Zc (.bool true) (Ze (Zf (Zq (Zp ?_)))))
 rw [show Zb9 n low high = true from Za5 (by omega) (by omega)]
 exact Zm (v := .bool true) rfl rfl rfl (by kernel_rfl) rfl
 refine Zn (vx := Iv n) (vy := Iv high) rfl rfl (.bool false) rfl rfl (Znh (by omega)) ?_
 refine Zg (.bool false) (Zc (.bool false) (Ze (Zf (Zq (Zp ?_)))))
 rw [show Zb9 n low high = false from Z6 (by omega)]
 exact Zm (v := .bool false) rfl rfl rfl (by kernel_rfl) rfl
 refine Zn (vx := Iv n) (vy := Iv low) rfl rfl (.bool false) rfl rfl (Zjl (by omega)) ?_
 refine Zb (.bool false) (Za (Za (Za (Zg (.bool false) (Zc (.bool false) (Ze (Zf (Zq (Zp ?_)))))))))
 rw [show Zb9 n low high = false from Z6 (by omega)]
 exact Zm (v := .bool false) rfl rfl rfl (by kernel_rfl) rfl
theorem Zby (b : Bool) : Zas Try.prog G 58 [.bool b] [] (Iv (if b then 0 else 60)) [] := by
 refine Zcv (fn := Try.f58) (nt := 4) rfl rfl rfl rfl ?_
 refine Zj (Zl (Zc (Iv 0) (Ze (Zf (Zj (Zj (Zl (Zb (.bool b) (Ze (Zf ?_))))))))))
 rcases Bool.eq_false_or_eq_true b with h1 | h1
 refine Z8 (congrArg Value.bool h1) (Zj (Zl (Zc (Iv 0) (Ze (Zf (Zq (Z4 (Zp ?_))))))))
 rw [show (if b = true then (0 : Int) else 60) = 0 from by simp [*]]
 exact Zm (v := Iv 0) rfl rfl rfl (by kernel_rfl) rfl
 refine Zw (congrArg Value.bool h1) (Z7 (Zf (Zj (Zl (Zc (Iv 60) (Ze (Zf (Zq (Zp ?_)))))))))
 rw [show (if b = true then (0 : Int) else 60) = 60 from by simp [*]]
 exact Zm (v := Iv 60) rfl rfl rfl (by kernel_rfl) rfl
theorem Zgi (c : Claim) : Zas Try.prog G 44 [Zv c] [] (Iv (Zdv c)) [] := by
 refine Zcv (fn := Try.f44) (nt := 22) rfl rfl rfl rfl ?_
 refine Zbq 1 (H' := [hole]) rfl ?_
 refine Zj (Zl (Zbw (v := Zv c) (b := bxB 36 (Zo c)) (nid := 0) (H' := [bxB 36 (Zo c)]) (Zc (Iv 0) (Ze (Zf (Zj (Zl (Zd (b := 0) (o := 0) (n := 0) (o' := 0) (Zi (p := pt 0 0) (v := Iv c.region) ?_)))))))))
 by_cases h1 : 1 ≤ c.region
 by_cases h2 : c.region ≤ 5
 refine Zs ((Za0 (G := G) c.region 1 5).res (congrArg Value.bool (Za5 (by omega) (by omega)))) (vals := [Iv c.region, Iv 1, Iv 5]) (res' := .bool true) rfl rfl rfl rfl rfl rfl ?_
 refine Zb (.bool true) (Zd (b := 0) (o := 0) (n := 1) (o' := 1) (Zi (p := pt 0 1) (v := Iv c.epoch) ?_))
 by_cases h3 : 1 ≤ c.epoch
 by_cases h4 : c.epoch ≤ 900000000
 refine Zs ((Za0 (G := G) c.epoch 1 900000000).res (congrArg Value.bool (Za5 (by omega) (by omega)))) (vals := [Iv c.epoch, Iv 1, Iv 900000000]) (res' := .bool true) rfl rfl rfl rfl rfl rfl ?_
 refine Zg (.bool true) (Zb (.bool true) (Zd (b := 0) (o := 0) (n := 2) (o' := 2) (Zi (p := pt 0 2) (v := Iv c.node) ?_)))
 by_cases h5 : 1 ≤ c.node
 by_cases h6 : c.node ≤ 3
 refine Zs ((Za0 (G := G) c.node 1 3).res (congrArg Value.bool (Za5 (by omega) (by omega)))) (vals := [Iv c.node, Iv 1, Iv 3]) (res' := .bool true) rfl rfl rfl rfl rfl rfl ?_
 refine Zg (.bool true) (Zb (.bool true) (Zd (b := 0) (o := 0) (n := 3) (o' := 3) (Zi (p := pt 0 3) (v := Iv c.size) ?_)))
 by_cases h7 : 0 ≤ c.size
 by_cases h8 : c.size ≤ 100000
 refine Zs ((Za0 (G := G) c.size 0 100000).res (congrArg Value.bool (Za5 (by omega) (by omega)))) (vals := [Iv c.size, Iv 0, Iv 100000]) (res' := .bool true) rfl rfl rfl rfl rfl rfl ?_
 refine Zg (.bool true) ?_
 refine Zs (Zby (G := G) true) (vals := [.bool true]) (res' := Iv 0) rfl rfl rfl rfl rfl rfl ?_
 refine Zc (Iv 0) (Ze (Zf (Zq (Zp ?_))))
 rw [show Zdv c = 0 from if_pos (by unfold Zck; omega)]
 exact Zm (v := Iv 0) rfl rfl rfl (by kernel_rfl) rfl
 refine Zs ((Za0 (G := G) c.size 0 100000).res (congrArg Value.bool (Z6 (by omega)))) (vals := [Iv c.size, Iv 0, Iv 100000]) (res' := .bool false) rfl rfl rfl rfl rfl rfl ?_
 refine Zg (.bool false) ?_
 refine Zs (Zby (G := G) false) (vals := [.bool false]) (res' := Iv 60) rfl rfl rfl rfl rfl rfl ?_
 refine Zc (Iv 60) (Ze (Zf (Zq (Zp ?_))))
 rw [show Zdv c = 60 from if_neg (by unfold Zck; omega)]
 exact Zm (v := Iv 60) rfl rfl rfl (by kernel_rfl) rfl
 refine Zs ((Za0 (G := G) c.size 0 100000).res (congrArg Value.bool (Z6 (by omega)))) (vals := [Iv c.size, Iv 0, Iv 100000]) (res' := .bool false) rfl rfl rfl rfl rfl rfl ?_
 refine Zg (.bool false) ?_
 refine Zs (Zby (G := G) false) (vals := [.bool false]) (res' := Iv 60) rfl rfl rfl rfl rfl rfl ?_
 refine Zc (Iv 60) (Ze (Zf (Zq (Zp ?_))))
 rw [show Zdv c = 60 from if_neg (by unfold Zck; omega)]
 exact Zm (v := Iv 60) rfl rfl rfl (by kernel_rfl) rfl
 refine Zs ((Za0 (G := G) c.node 1 3).res (congrArg Value.bool (Z6 (by omega)))) (vals := [Iv c.node, Iv 1, Iv 3]) (res' := .bool false) rfl rfl rfl rfl rfl rfl ?_
 refine Zg (.bool false) (Zb (.bool false) (Za (Za (Za (Zg (.bool false) ?_)))))
 refine Zs (Zby (G := G) false) (vals := [.bool false]) (res' := Iv 60) rfl rfl rfl rfl rfl rfl ?_
 refine Zc (Iv 60) (Ze (Zf (Zq (Zp ?_))))
 rw [show Zdv c = 60 from if_neg (by unfold Zck; omega)]
 exact Zm (v := Iv 60) rfl rfl rfl (by kernel_rfl) rfl
 refine Zs ((Za0 (G := G) c.node 1 3).res (congrArg Value.bool (Z6 (by omega)))) (vals := [Iv c.node, Iv 1, Iv 3]) (res' := .bool false) rfl rfl rfl rfl rfl rfl ?_
 refine Zg (.bool false) (Zb (.bool false) (Za (Za (Za (Zg (.bool false) ?_)))))
 refine Zs (Zby (G := G) false) (vals := [.bool false]) (res' := Iv 60) rfl rfl rfl rfl rfl rfl ?_
 refine Zc (Iv 60) (Ze (Zf (Zq (Zp ?_))))
 rw [show Zdv c = 60 from if_neg (by unfold Zck; omega)]
 exact Zm (v := Iv 60) rfl rfl rfl (by kernel_rfl) rfl
 refine Zs ((Za0 (G := G) c.epoch 1 900000000).res (congrArg Value.bool (Z6 (by omega)))) (vals := [Iv c.epoch, Iv 1, Iv 900000000]) (res' := .bool false) rfl rfl rfl rfl rfl rfl ?_
 refine Zg (.bool false) (Zb (.bool false) (Za (Za (Za (Zg (.bool false) (Zb (.bool false) (Za (Za (Za (Zg (.bool false) ?_))))))))))
 refine Zs (Zby (G := G) false) (vals := [.bool false]) (res' := Iv 60) rfl rfl rfl rfl rfl rfl ?_
 refine Zc (Iv 60) (Ze (Zf (Zq (Zp ?_))))
 rw [show Zdv c = 60 from if_neg (by unfold Zck; omega)]
 exact Zm (v := Iv 60) rfl rfl rfl (by kernel_rfl) rfl
 refine Zs ((Za0 (G := G) c.epoch 1 900000000).res (congrArg Value.bool (Z6 (by omega)))) (vals := [Iv c.epoch, Iv 1, Iv 900000000]) (res' := .bool false) rfl rfl rfl rfl rfl rfl ?_
 refine Zg (.bool false) (Zb (.bool false) (Za (Za (Za (Zg (.bool false) (Zb (.bool false) (Za (Za (Za (Zg (.bool false) ?_))))))))))
 refine Zs (Zby (G := G) false) (vals := [.bool false]) (res' := Iv 60) rfl rfl rfl rfl rfl rfl ?_
 refine Zc (Iv 60) (Ze (Zf (Zq (Zp ?_))))
 rw [show Zdv c = 60 from if_neg (by unfold Zck; omega)]
 exact Zm (v := Iv 60) rfl rfl rfl (by kernel_rfl) rfl
 refine Zs ((Za0 (G := G) c.region 1 5).res (congrArg Value.bool (Z6 (by omega)))) (vals := [Iv c.region, Iv 1, Iv 5]) (res' := .bool false) rfl rfl rfl rfl rfl rfl ?_
 refine Zb (.bool false) (Za (Za (Za (Zg (.bool false) (Zb (.bool false) (Za (Za (Za (Zg (.bool false) (Zb (.bool false) (Za (Za (Za (Zg (.bool false) ?_))))))))))))))
 refine Zs (Zby (G := G) false) (vals := [.bool false]) (res' := Iv 60) rfl rfl rfl rfl rfl rfl ?_
 refine Zc (Iv 60) (Ze (Zf (Zq (Zp ?_))))
 rw [show Zdv c = 60 from if_neg (by unfold Zck; omega)]
 exact Zm (v := Iv 60) rfl rfl rfl (by kernel_rfl) rfl
 refine Zs ((Za0 (G := G) c.region 1 5).res (congrArg Value.bool (Z6 (by omega)))) (vals := [Iv c.region, Iv 1, Iv 5]) (res' := .bool false) rfl rfl rfl rfl rfl rfl ?_
 refine Zb (.bool false) (Za (Za (Za (Zg (.bool false) (Zb (.bool false) (Za (Za (Za (Zg (.bool false) (Zb (.bool false) (Za (Za (Za (Zg (.bool false) ?_))))))))))))))
 refine Zs (Zby (G := G) false) (vals := [.bool false]) (res' := Iv 60) rfl rfl rfl rfl rfl rfl ?_
 refine Zc (Iv 60) (Ze (Zf (Zq (Zp ?_))))
 rw [show Zdv c = 60 from if_neg (by unfold Zck; omega)]
 exact Zm (v := Iv 60) rfl rfl rfl (by kernel_rfl) rfl
end Go.Flat
