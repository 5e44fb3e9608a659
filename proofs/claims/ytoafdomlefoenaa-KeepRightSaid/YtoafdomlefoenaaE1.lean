/- Walks. -/
import Derived.Test.YtoafdomlefoenaaH3
import Derived.Test.YtoafdomlefoenaaFlatG
set_option linter.unusedVariables false
set_option maxRecDepth 20000
set_option linter.unusedSimpArgs false
namespace Go.Flat
open Go.Proofs
variable {G : Glob}
structure Head where
  region : Int
  epoch : Int
  size : Int
  root : D
  tick : Int
structure Signed where
  head : Head
  node : Int
  tag : D
def Zjg (h : Head) : List Value := [.int .i64 h.region, .int .i64 h.epoch, .int .i64 h.size] ++ Zdw w8 32 h.root ++ [.int .i64 h.tick]
def Zkj (h : Head) : Value := .agg (Zjg h).toArray
def Zg6 (s : Signed) : List Value := Zjg s.head ++ [.int .i64 s.node] ++ Zdw w8 32 s.tag
def Zig (s : Signed) : Value := .agg (Zg6 s).toArray
def Zzg : Nat → List ByteArray → List Field
  | _, [] => []
  | k, x :: l => ⟨(k : Int) + 1, x⟩ :: Zzg (k + 1) l
def Zny (ls : List ByteArray) : Bs := (Zy4 (Zzg 0 ls) 0 []).1
def Zb7 (n low high : Int) : Bool :=
  if low ≤ n then (if n ≤ high then true else
  false) else
  false
theorem Zcz (n low high : Int) : Zar Try.prog G 70 [Iv n, Iv low, Iv high] [] (.bool (Zb7 n low high)) [] := by
 refine Zcu (fn := Try.f70) (nt := 15) rfl rfl rfl rfl ?_
 refine Zj (Zl (Zc (.bool false) (Zd (Zf (Zj (Zl (Zb (Iv n) (Zb (Iv low) ?_))))))))
 by_cases h1 : low ≤ n
 refine Zn (vx := Iv n) (vy := Iv low) rfl rfl (.bool true) rfl rfl (Zfg (by omega)) ?_
 refine Zb (.bool true) (Zb (Iv n) (Zb (Iv high) ?_))
 by_cases h2 : n ≤ high
 refine Zn (vx := Iv n) (vy := Iv high) rfl rfl (.bool true) rfl rfl (Zna (by omega)) ?_
 refine Zh (.bool true) (Zc (.bool true) (Zd (Zf (Zq (Zp ?_)))))
 rw [show Zb7 n low high = true from by unfold Zb7; rw [if_pos h1, if_pos h2]]
 exact Zm (v := .bool true) rfl rfl rfl (by kernel_rfl) rfl
 refine Zn (vx := Iv n) (vy := Iv high) rfl rfl (.bool false) rfl rfl (Zm9 (by omega)) ?_
 refine Zh (.bool false) (Zc (.bool false) (Zd (Zf (Zq (Zp ?_)))))
 rw [show Zb7 n low high = false from by unfold Zb7; rw [if_pos h1, if_neg h2]]
 exact Zm (v := .bool false) rfl rfl rfl (by kernel_rfl) rfl
 refine Zn (vx := Iv n) (vy := Iv low) rfl rfl (.bool false) rfl rfl (Zjf (by omega)) ?_
 refine Zb (.bool false) (Za (Za (Za (Zh (.bool false) (Zc (.bool false) (Zd (Zf (Zq (Zp ?_)))))))))
 rw [show Zb7 n low high = false from by unfold Zb7; rw [if_neg h1]]
 exact Zm (v := .bool false) rfl rfl rfl (by kernel_rfl) rfl
theorem Za2 {n low high : Int} (h1 : low ≤ n) (h2 : n ≤ high) : Zb7 n low high = true := by unfold Zb7; rw [if_pos h1, if_pos h2]
theorem Z4 {n low high : Int} (h : n < low ∨ high < n) : Zb7 n low high = false := by
 unfold Zb7
 by_cases h1 : low ≤ n
 ·rw [if_pos h1, if_neg (by omega)]
 ·rw [if_neg h1]
def Zb0 (h : Head) : Int :=
  if 1 ≤ h.region then (if h.region ≤ 5 then (if 1 ≤ h.epoch then (if h.epoch ≤ 900000000 then (if 0 ≤ h.size then (if h.size ≤ 100000 then (if 0 ≤ h.tick then (if h.tick ≤ 900000000 then 0 else
  70) else
  70) else
  70) else
  70) else
  70) else
  70) else
  70) else
  70
theorem Ztx (h : Head) : Zar Try.prog G 64 [Zkj h] [] (Iv (Zb0 h)) [] := by
 refine Zcu (fn := Try.f64) (nt := 21) rfl rfl rfl rfl ?_
 refine Zbo 1 (H' := [hole]) rfl ?_
 refine Zj (Zl (Zbx (v := Zkj h) (b := bxB 36 (Zjg h)) (nid := 0) (H' := [bxB 36 (Zjg h)]) (Zc (Iv 0) (Zd (Zf (Zj (Zj (Zl (Ze (b := 0) (o := 0) (n := 0) (o' := 0) (Zk (p := pt 0 0) (v := Iv h.region) ?_))))))))))
 by_cases h1 : 1 ≤ h.region
 by_cases h2 : h.region ≤ 5
 refine Zt ((Zcz (G := G) h.region 1 5).res (congrArg Value.bool (Za2 (by omega) (by omega)))) (vals := [Iv h.region, Iv 1, Iv 5]) (res' := .bool true) rfl rfl rfl rfl rfl rfl ?_
 refine Zb (.bool true) (Ze (b := 0) (o := 0) (n := 1) (o' := 1) (Zk (p := pt 0 1) (v := Iv h.epoch) ?_))
 by_cases h3 : 1 ≤ h.epoch
 by_cases h4 : h.epoch ≤ 900000000
 refine Zt ((Zcz (G := G) h.epoch 1 900000000).res (congrArg Value.bool (Za2 (by omega) (by omega)))) (vals := [Iv h.epoch, Iv 1, Iv 900000000]) (res' := .bool true) rfl rfl rfl rfl rfl rfl ?_
 refine Zh (.bool true) (Zb (.bool true) (Ze (b := 0) (o := 0) (n := 2) (o' := 2) (Zk (p := pt 0 2) (v := Iv h.size) ?_)))
 by_cases h5 : 0 ≤ h.size
 by_cases h6 : h.size ≤ 100000
 refine Zt ((Zcz (G := G) h.size 0 100000).res (congrArg Value.bool (Za2 (by omega) (by omega)))) (vals := [Iv h.size, Iv 0, Iv 100000]) (res' := .bool true) rfl rfl rfl rfl rfl rfl ?_
 refine Zh (.bool true) (Zb (.bool true) (Ze (b := 0) (o := 0) (n := 35) (o' := 35) (Zk (p := pt 0 35) (v := Iv h.tick) ?_)))
 by_cases h7 : 0 ≤ h.tick
 by_cases h8 : h.tick ≤ 900000000
 refine Zt ((Zcz (G := G) h.tick 0 900000000).res (congrArg Value.bool (Za2 (by omega) (by omega)))) (vals := [Iv h.tick, Iv 0, Iv 900000000]) (res' := .bool true) rfl rfl rfl rfl rfl rfl ?_
 refine Zh (.bool true) (Zd (Zf (Z5 rfl (Zj (Zl (Zc (Iv 0) (Zd (Zf (Zq (Z2 (Zp ?_)))))))))))
 rw [show Zb0 h = 0 from by unfold Zb0; rw [if_pos h1, if_pos h2, if_pos h3, if_pos h4, if_pos h5, if_pos h6, if_pos h7, if_pos h8]]
 exact Zm (v := Iv 0) rfl rfl rfl (by kernel_rfl) rfl
 refine Zt ((Zcz (G := G) h.tick 0 900000000).res (congrArg Value.bool (Z4 (by omega)))) (vals := [Iv h.tick, Iv 0, Iv 900000000]) (res' := .bool false) rfl rfl rfl rfl rfl rfl ?_
 refine Zh (.bool false) (Zd (Zf (Zw rfl (Z8 (Zf (Zj (Zl (Zc (Iv 70) (Zd (Zf (Zq (Zp ?_))))))))))))
 rw [show Zb0 h = 70 from by unfold Zb0; rw [if_pos h1, if_pos h2, if_pos h3, if_pos h4, if_pos h5, if_pos h6, if_pos h7, if_neg h8]]
 exact Zm (v := Iv 70) rfl rfl rfl (by kernel_rfl) rfl
 refine Zt ((Zcz (G := G) h.tick 0 900000000).res (congrArg Value.bool (Z4 (by omega)))) (vals := [Iv h.tick, Iv 0, Iv 900000000]) (res' := .bool false) rfl rfl rfl rfl rfl rfl ?_
 refine Zh (.bool false) (Zd (Zf (Zw rfl (Z8 (Zf (Zj (Zl (Zc (Iv 70) (Zd (Zf (Zq (Zp ?_))))))))))))
 rw [show Zb0 h = 70 from by unfold Zb0; rw [if_pos h1, if_pos h2, if_pos h3, if_pos h4, if_pos h5, if_pos h6, if_neg h7]]
 exact Zm (v := Iv 70) rfl rfl rfl (by kernel_rfl) rfl
 refine Zt ((Zcz (G := G) h.size 0 100000).res (congrArg Value.bool (Z4 (by omega)))) (vals := [Iv h.size, Iv 0, Iv 100000]) (res' := .bool false) rfl rfl rfl rfl rfl rfl ?_
 refine Zh (.bool false) (Zb (.bool false) (Za (Za (Za (Zh (.bool false) (Zd (Zf (Zw rfl (Z8 (Zf (Zj (Zl (Zc (Iv 70) (Zd (Zf (Zq (Zp ?_)))))))))))))))))
 rw [show Zb0 h = 70 from by unfold Zb0; rw [if_pos h1, if_pos h2, if_pos h3, if_pos h4, if_pos h5, if_neg h6]]
 exact Zm (v := Iv 70) rfl rfl rfl (by kernel_rfl) rfl
 refine Zt ((Zcz (G := G) h.size 0 100000).res (congrArg Value.bool (Z4 (by omega)))) (vals := [Iv h.size, Iv 0, Iv 100000]) (res' := .bool false) rfl rfl rfl rfl rfl rfl ?_
 refine Zh (.bool false) (Zb (.bool false) (Za (Za (Za (Zh (.bool false) (Zd (Zf (Zw rfl (Z8 (Zf (Zj (Zl (Zc (Iv 70) (Zd (Zf (Zq (Zp ?_)))))))))))))))))
 rw [show Zb0 h = 70 from by unfold Zb0; rw [if_pos h1, if_pos h2, if_pos h3, if_pos h4, if_neg h5]]
 exact Zm (v := Iv 70) rfl rfl rfl (by kernel_rfl) rfl
 refine Zt ((Zcz (G := G) h.epoch 1 900000000).res (congrArg Value.bool (Z4 (by omega)))) (vals := [Iv h.epoch, Iv 1, Iv 900000000]) (res' := .bool false) rfl rfl rfl rfl rfl rfl ?_
 refine Zh (.bool false) (Zb (.bool false) (Za (Za (Za (Zh (.bool false) (Zb (.bool false) (Za (Za (Za (Zh (.bool false) (Zd (Zf (Zw rfl (Z8 (Zf (Zj (Zl (Zc (Iv 70) (Zd (Zf (Zq (Zp ?_))))))))))))))))))))))
 rw [show Zb0 h = 70 from by unfold Zb0; rw [if_pos h1, if_pos h2, if_pos h3, if_neg h4]]
 exact Zm (v := Iv 70) rfl rfl rfl (by kernel_rfl) rfl
 refine Zt ((Zcz (G := G) h.epoch 1 900000000).res (congrArg Value.bool (Z4 (by omega)))) (vals := [Iv h.epoch, Iv 1, Iv 900000000]) (res' := .bool false) rfl rfl rfl rfl rfl rfl ?_
 refine Zh (.bool false) (Zb (.bool false) (Za (Za (Za (Zh (.bool false) (Zb (.bool false) (Za (Za (Za (Zh (.bool false) (Zd (Zf (Zw rfl (Z8 (Zf (Zj (Zl (Zc (Iv 70) (Zd (Zf (Zq (Zp ?_))))))))))))))))))))))
 rw [show Zb0 h = 70 from by unfold Zb0; rw [if_pos h1, if_pos h2, if_neg h3]]
 exact Zm (v := Iv 70) rfl rfl rfl (by kernel_rfl) rfl
 refine Zt ((Zcz (G := G) h.region 1 5).res (congrArg Value.bool (Z4 (by omega)))) (vals := [Iv h.region, Iv 1, Iv 5]) (res' := .bool false) rfl rfl rfl rfl rfl rfl ?_
 refine Zb (.bool false) (Za (Za (Za (Zh (.bool false) (Zb (.bool false) (Za (Za (Za (Zh (.bool false) (Zb (.bool false) (Za (Za (Za (Zh (.bool false) (Zd (Zf (Zw rfl (Z8 (Zf (Zj (Zl (Zc (Iv 70) (Zd (Zf (Zq (Zp ?_))))))))))))))))))))))))))
 rw [show Zb0 h = 70 from by unfold Zb0; rw [if_pos h1, if_neg h2]]
 exact Zm (v := Iv 70) rfl rfl rfl (by kernel_rfl) rfl
 refine Zt ((Zcz (G := G) h.region 1 5).res (congrArg Value.bool (Z4 (by omega)))) (vals := [Iv h.region, Iv 1, Iv 5]) (res' := .bool false) rfl rfl rfl rfl rfl rfl ?_
 refine Zb (.bool false) (Za (Za (Za (Zh (.bool false) (Zb (.bool false) (Za (Za (Za (Zh (.bool false) (Zb (.bool false) (Za (Za (Za (Zh (.bool false) (Zd (Zf (Zw rfl (Z8 (Zf (Zj (Zl (Zc (Iv 70) (Zd (Zf (Zq (Zp ?_))))))))))))))))))))))))))
 rw [show Zb0 h = 70 from by unfold Zb0; rw [if_neg h1]]
 exact Zm (v := Iv 70) rfl rfl rfl (by kernel_rfl) rfl
def Zj9 (h : Head) : Prop := (1 ≤ h.region ∧ h.region ≤ 5) ∧ (1 ≤ h.epoch ∧ h.epoch ≤ 900000000) ∧ (0 ≤ h.size ∧ h.size ≤ 100000) ∧ (0 ≤ h.tick ∧ h.tick ≤ 900000000)
instance (h : Head) : Decidable (Zj9 h) := inferInstanceAs (Decidable (_ ∧ _))
theorem Zsz (h : Head) : Zb0 h = if Zj9 h then 0 else 70 := by
 unfold Zb0 Zj9
 repeat (first | split | omega)
def Zuk (h : Head) : List ByteArray := [(Zte h.region).1, (Zte h.epoch).1, (Zte h.size).1, Zfd (dgL h.root), (Zte h.tick).1]
def Ztj (h : Head) : Bs × Int := if Zb0 h = 0 then (Zny (Zuk h), 0) else ([], Zb0 h)
end Go.Flat
namespace Go.Flat
open Go.Proofs
variable {G : Glob}
def Z0g (key : D) : D := fun i => if i < 32 then key i else 0
def Zzt (c : D) (x : BitVec 8) (j : Nat) : D := fun i => if i < j then c i ^^^ x else c i
def Zt8 (key : D) (x : BitVec 8) : ByteArray := Zfd (Zyh 64 (Zzt (Z0g key) x 64))
def Zu6 (kk : Nat → BitVec 32) (key : D) (s : ByteArray) : D := Zp8 kk (Zsj [Zt8 key 92#8, Zfd (dgL (Zp8 kk (Zsj [Zt8 key 54#8, s])))])
def Zz3 (a b : D) : Nat → BitVec 8
  | 0 => 0
  | j + 1 => Zz3 a b j ||| (a j ^^^ b j)
def Zus (kk : Nat → BitVec 32) (master : D) (region node : Int) : D × Int := if (1 ≤ region ∧ region ≤ 5) ∧ (1 ≤ node ∧ node ≤ 3) then (Zu6 kk master (Zfd [75#8, BitVec.ofInt 8 region, BitVec.ofInt 8 node]), 0) else (dz, 50)
def Zx1 (kk : Nat → BitVec 32) (master : D) (region node : Int) (s : ByteArray) (t : D) : Int :=
  if ((Zus kk master region node).2) ≠ 0 then ((Zus kk master region node).2) else
  if Zem 32 (Zu6 kk ((Zus kk master region node).1) s) t = true then 0 else
  72
end Go.Flat
namespace Go.Flat
open Go.Proofs
variable {G : Glob}
def Zu7 : ByteArray := ⟨#[104, 101, 97, 100, 32]⟩
def Z0r : List Field → Nat
  | [] => 0
  | f :: l => f.data.size + 4 + Z0r l
def Z01 (s : Signed) : Bs × Int := if Zb0 s.head = 0 ∧ 1 ≤ s.node ∧ s.node ≤ 3 then (Zny [Zfd (Ztj s.head).1, (Zte s.node).1, Zfd (dgL s.tag)], 0) else ([], 70)
def Z05 (kk : Nat → BitVec 32) (master : D) (h : Head) (node : Int) : Signed × Int :=
  if ((Ztj h).2) ≠ 0 then ((⟨(⟨0, 0, 0, dz, 0⟩ : Head), 0, dz⟩ : Signed), ((Ztj h).2)) else
  if ((Zus kk master h.region node).2) ≠ 0 then ((⟨(⟨0, 0, 0, dz, 0⟩ : Head), 0, dz⟩ : Signed), 70) else
  ((⟨h, node, (Zu6 kk ((Zus kk master h.region node).1) (Zu7 ++ (Zfd ((Ztj h).1))))⟩ : Signed), 0)
def Zz0 (kk : Nat → BitVec 32) (master : D) (s : Signed) : Int :=
  if ((Ztj s.head).2) ≠ 0 then 70 else
  if 1 ≤ s.node then (if s.node ≤ 3 then (Zx1 kk master s.head.region s.node (Zu7 ++ (Zfd ((Ztj s.head).1))) s.tag) else
  70) else
  70
end Go.Flat
namespace Go.Flat
open Go.Proofs
variable {G : Glob}
def beL : Nat → Nat → Bs → Bs
  | 0, _, l => l
  | f + 1, n, l => if n = 0 then l else beL f (n / 256) (BitVec.ofInt 8 (n : Int) :: l)
def Z0n : Nat → List ByteArray → Bs
  | _, [] => []
  | k, x :: l => Zys ⟨(k : Int) + 1, x⟩ ++ Z0n (k + 1) l
end Go.Flat
namespace Go.Flat
open Go.Proofs
variable {G : Glob}
def Zzy (s : Signed) : List ByteArray := [Zfd (Zny (Zuk s.head)), (Zte s.node).1, Zfd (dgL s.tag)]
def Zwq (s : Signed) : Prop := Zj9 s.head ∧ 1 ≤ s.node ∧ s.node ≤ 3
instance (s : Signed) : Decidable (Zwq s) := inferInstanceAs (Decidable (_ ∧ _))
def Zzp (kk : Nat → BitVec 32) (master : D) (h : Head) (node : Int) : D := Zu6 kk (Zu6 kk master (Zfd [75#8, BitVec.ofInt 8 h.region, BitVec.ofInt 8 node])) (Zu7 ++ Zfd (Zny (Zuk h)))
def Zxl : Signed := ⟨⟨0, 0, 0, dz, 0⟩, 0, dz⟩
def Z06 (kk : Nat → BitVec 32) (master : D) (h : Head) (node : Int) : Signed × Int := if Zj9 h ∧ 1 ≤ node ∧ node ≤ 3 then (⟨h, node, Zzp kk master h node⟩, 0) else (Zxl, 70)
def Zz1 (kk : Nat → BitVec 32) (master : D) (s : Signed) : Int := if Zwq s then (if Zem 32 (Zzp kk master s.head s.node) s.tag = true then 0 else 72) else 70
end Go.Flat
namespace Go.Flat
open Go.Proofs Go.ChangeShapes Go.WideShapes Go.RowKit
variable {G : Glob}
def Zhl (a b : Head) : Bool := ((a.region == b.region) && ((a.epoch == b.epoch) && ((a.size == b.size) && ((Zem 32 a.root b.root) && ((a.tick == b.tick) && true)))))
theorem Zv8 (a b : Head) {d : Nat} : Z0 Try.prog (Op.equalIn (d + 3) 32 (Zkj a) (Zkj b)) = some (Zhl a b) :=
 eqS (P := Try.prog) (d + 2) 32 _ (Zjg a).toArray (Zjg b).toArray (fun f => if f.offset = 0 then (a.region == b.region) else if f.offset = 1 then (a.epoch == b.epoch) else if f.offset = 2 then (a.size == b.size) else if f.offset = 3 then (Zem 32 a.root b.root) else if f.offset = 35 then (a.tick == b.tick) else true) rfl (by kernel_rfl) (List.forall_mem_cons.2 ⟨⟨by decide, Iv a.region, Iv b.region, Zay rfl rfl rfl, Zay rfl rfl rfl, Zes rfl⟩, List.forall_mem_cons.2 ⟨⟨by decide, Iv a.epoch, Iv b.epoch, Zay rfl rfl rfl, Zay rfl rfl rfl, Zes rfl⟩, List.forall_mem_cons.2 ⟨⟨by decide, Iv a.size, Iv b.size, Zay rfl rfl rfl, Zay rfl rfl rfl, Zes rfl⟩, List.forall_mem_cons.2 ⟨⟨by decide, .agg (Zdw w8 32 a.root).toArray, .agg (Zdw w8 32 b.root).toArray, Zb3 (n := 32) rfl rfl rfl rfl rfl, Zb3 (n := 32) rfl rfl rfl rfl rfl, Zlk rfl rfl rfl⟩, List.forall_mem_cons.2 ⟨⟨by decide, Iv a.tick, Iv b.tick, Zay rfl rfl rfl, Zay rfl rfl rfl, Zes rfl⟩, fun _ h => absurd h (by simp)⟩⟩⟩⟩⟩)
theorem Zpa (a : Head) : Zhl a a = true := by simp [Zhl, Zem]
def Zea (a b : Signed) : Bool := ((Zhl a.head b.head) && ((a.node == b.node) && ((Zem 32 a.tag b.tag) && true)))
theorem Zs1 (a b : Signed) {d : Nat} : Z0 Try.prog (Op.equalIn (d + 4) 34 (Zig a) (Zig b)) = some (Zea a b) :=
 eqS (P := Try.prog) (d + 3) 34 _ (Zg6 a).toArray (Zg6 b).toArray (fun f => if f.offset = 0 then (Zhl a.head b.head) else if f.offset = 36 then (a.node == b.node) else if f.offset = 37 then (Zem 32 a.tag b.tag) else true) rfl (by kernel_rfl) (List.forall_mem_cons.2 ⟨⟨by decide, Zkj a.head, Zkj b.head, Zb3 (n := 36) rfl rfl rfl rfl rfl, Zb3 (n := 36) rfl rfl rfl rfl rfl, Zv8 a.head b.head⟩, List.forall_mem_cons.2 ⟨⟨by decide, Iv a.node, Iv b.node, Zay rfl rfl rfl, Zay rfl rfl rfl, Zes rfl⟩, List.forall_mem_cons.2 ⟨⟨by decide, .agg (Zdw w8 32 a.tag).toArray, .agg (Zdw w8 32 b.tag).toArray, Zb3 (n := 32) rfl rfl rfl rfl rfl, Zb3 (n := 32) rfl rfl rfl rfl rfl, Zlk rfl rfl rfl⟩, fun _ h => absurd h (by simp)⟩⟩⟩)
theorem Zim (a : Signed) : Zea a a = true := by simp [Zea, Zem, Zpa]
def okHead (a : Head) : Prop := (-9223372036854775808 ≤ a.region ∧ a.region ≤ 9223372036854775807) ∧ (-9223372036854775808 ≤ a.epoch ∧ a.epoch ≤ 9223372036854775807) ∧ (-9223372036854775808 ≤ a.size ∧ a.size ≤ 9223372036854775807) ∧ True ∧ (-9223372036854775808 ≤ a.tick ∧ a.tick ≤ 9223372036854775807) ∧ True
theorem Zq1 : Zak Try.prog 32 Zjg okHead := by
 intro H encH W fuel cs x h
 obtain ⟨xs, n, _, _, hl, hxl, hel⟩ := DataW.trod_struct (P := Try.prog) (t := 32) (fs := _) rfl h
 have hl' : cs.length = 36 := hl.trans (by kernel_rfl)
 obtain ⟨a0, e0, k0⟩ := Zak.at_ (t := 3) (off := 0) (k := 1) (Zak.int (by kernel_rfl)) (hel 0 _ rfl) (by rw [hxl]; decide) rfl (by kernel_rfl) rfl
 have q0 : cs.drop 0 = [Iv a0] ++ cs.drop 1 := by rw [Zal 0 1, e0]
 obtain ⟨a1, e1, k1⟩ := Zak.at_ (t := 3) (off := 1) (k := 1) (Zak.int (by kernel_rfl)) (hel 1 _ rfl) (by rw [hxl]; decide) rfl (by kernel_rfl) rfl
 have q1 : cs.drop 1 = [Iv a1] ++ cs.drop 2 := by rw [Zal 1 1, e1]
 obtain ⟨a2, e2, k2⟩ := Zak.at_ (t := 3) (off := 2) (k := 1) (Zak.int (by kernel_rfl)) (hel 2 _ rfl) (by rw [hxl]; decide) rfl (by kernel_rfl) rfl
 have q2 : cs.drop 2 = [Iv a2] ++ cs.drop 3 := by rw [Zal 2 1, e2]
 obtain ⟨a3, e3, k3⟩ := Zak.at_ (t := 30) (off := 3) (k := 32) (Zak.bytes (n := 32) (tb := 5) (by kernel_rfl) (by kernel_rfl) (by kernel_rfl) (by kernel_rfl)) (hel 3 _ rfl) (by rw [hxl]; decide) rfl (by kernel_rfl) rfl
 have q3 : cs.drop 3 = Zdw w8 32 a3 ++ cs.drop 35 := by rw [Zal 3 32, e3]
 obtain ⟨a4, e4, k4⟩ := Zak.at_ (t := 3) (off := 35) (k := 1) (Zak.int (by kernel_rfl)) (hel 4 _ rfl) (by rw [hxl]; decide) rfl (by kernel_rfl) rfl
 have q4 : cs.drop 35 = [Iv a4] ++ cs.drop 36 := by rw [Zal 35 1, e4]
 have qe : cs.drop 36 = [] := List.drop_of_length_le (by omega)
 refine ⟨⟨a0, a1, a2, a3, a4⟩, ?_, k0, k1, k2, k3, k4, trivial⟩
 rw [List.drop_zero] at q0
 rw [q0, q1, q2, q3, q4, qe]
 simp [Zjg]
def okSigned (a : Signed) : Prop := okHead a.head ∧ (-9223372036854775808 ≤ a.node ∧ a.node ≤ 9223372036854775807) ∧ True ∧ True
theorem Zof : Zak Try.prog 34 Zg6 okSigned := by
 intro H encH W fuel cs x h
 obtain ⟨xs, n, _, _, hl, hxl, hel⟩ := DataW.trod_struct (P := Try.prog) (t := 34) (fs := _) rfl h
 have hl' : cs.length = 69 := hl.trans (by kernel_rfl)
 obtain ⟨a0, e0, k0⟩ := Zak.at_ (t := 32) (off := 0) (k := 36) (Zq1) (hel 0 _ rfl) (by rw [hxl]; decide) rfl (by kernel_rfl) rfl
 have q0 : cs.drop 0 = Zjg a0 ++ cs.drop 36 := by rw [Zal 0 36, e0]
 obtain ⟨a1, e1, k1⟩ := Zak.at_ (t := 3) (off := 36) (k := 1) (Zak.int (by kernel_rfl)) (hel 1 _ rfl) (by rw [hxl]; decide) rfl (by kernel_rfl) rfl
 have q1 : cs.drop 36 = [Iv a1] ++ cs.drop 37 := by rw [Zal 36 1, e1]
 obtain ⟨a2, e2, k2⟩ := Zak.at_ (t := 30) (off := 37) (k := 32) (Zak.bytes (n := 32) (tb := 5) (by kernel_rfl) (by kernel_rfl) (by kernel_rfl) (by kernel_rfl)) (hel 2 _ rfl) (by rw [hxl]; decide) rfl (by kernel_rfl) rfl
 have q2 : cs.drop 37 = Zdw w8 32 a2 ++ cs.drop 69 := by rw [Zal 37 32, e2]
 have qe : cs.drop 69 = [] := List.drop_of_length_le (by omega)
 refine ⟨⟨a0, a1, a2⟩, ?_, k0, k1, k2, trivial⟩
 rw [List.drop_zero] at q0
 rw [q0, q1, q2, qe]
 simp [Zg6]
end Go.Flat
namespace Go.Flat
open Go.Proofs
variable {G : Glob}
instance : LawfulBEq ByteArray where
  eq_of_beq := by
    intro a b h
    obtain ⟨x⟩ := a; obtain ⟨y⟩ := b
    exact congrArg ByteArray.mk (eq_of_beq (show (x == y) = true from h))
  rfl := by
    intro a
    obtain ⟨x⟩ := a
    exact (BEq.rfl : (x == x) = true)
structure Claim where
  region : Int
  epoch : Int
  node : Int
  size : Int
  root : D
instance : Inhabited Claim := ⟨⟨0, 0, 0, 0, dz⟩⟩
def Zr (c : Claim) : List Value := [.int .i64 c.region, .int .i64 c.epoch, .int .i64 c.node, .int .i64 c.size] ++ Zdw w8 32 c.root
def Zy (c : Claim) : Value := .agg (Zr c).toArray
def Zg : Cod Claim := ⟨Zr, 36, fun _ => rfl, by decide⟩
structure Entry where
  kind : Int
  client : Int
  seq : Int
  text : ByteArray
  head : Signed
  claim : Claim
def Zzu : Claim := ⟨0, 0, 0, 0, dz⟩
def Zxk : Entry := ⟨0, 0, 0, ⟨#[]⟩, Zxl, Zzu⟩
instance : Inhabited Entry := ⟨Zxk⟩
def Zc6 (e : Entry) : List Value := [.int .i64 e.kind, .int .i64 e.client, .int .i64 e.seq, .string e.text] ++ (Zg6 e.head ++ Zr e.claim)
def Zc7 (e : Entry) : Value := .agg (Zc6 e).toArray
def Z08 : Cod Entry := ⟨Zc6, 109, fun _ => rfl, by decide⟩
structure Item where
  epoch : Int
  entry : Entry
instance : Inhabited Item := ⟨⟨0, Zxk⟩⟩
def Zs (x : Item) : List Value := .int .i64 x.epoch :: Zc6 x.entry
def Zao (x : Item) : Value := .agg (Zs x).toArray
def Zi : Cod Item := ⟨Zs, 110, fun _ => rfl, by decide⟩
def Zda (c : Claim) : Prop := (1 ≤ c.region ∧ c.region ≤ 5) ∧ (1 ≤ c.epoch ∧ c.epoch ≤ 900000000) ∧ (1 ≤ c.node ∧ c.node ≤ 3) ∧ (0 ≤ c.size ∧ c.size ≤ 100000)
instance (c : Claim) : Decidable (Zda c) := inferInstanceAs (Decidable (_ ∧ _))
def Zd6 (c : Claim) : Int := if Zda c then 0 else 60
theorem Zo0 {c : Claim} (h : Zd6 c = 0) : Zda c := by
 unfold Zd6 at h
 split at h
 ·assumption
 ·omega
theorem Zoz {c : Claim} (h : ¬ Zd6 c = 0) : ¬ Zda c := fun q => h (if_pos q)
section
open Go.ChangeShapes Go.WideShapes Go.RowKit
def Zv (a b : Claim) : Bool := ((a.region == b.region) && ((a.epoch == b.epoch) && ((a.node == b.node) && ((a.size == b.size) && ((Zem 32 a.root b.root) && true)))))
theorem Zlj (a b : Claim) {d : Nat} : Z0 Try.prog (Op.equalIn (d + 3) 36 (Zy a) (Zy b)) = some (Zv a b) :=
 eqS (P := Try.prog) (d + 2) 36 _ (Zr a).toArray (Zr b).toArray (fun f => if f.offset = 0 then (a.region == b.region) else if f.offset = 1 then (a.epoch == b.epoch) else if f.offset = 2 then (a.node == b.node) else if f.offset = 3 then (a.size == b.size) else if f.offset = 4 then (Zem 32 a.root b.root) else true) rfl (by kernel_rfl) (List.forall_mem_cons.2 ⟨⟨by decide, Iv a.region, Iv b.region, Zay rfl rfl rfl, Zay rfl rfl rfl, Zes rfl⟩, List.forall_mem_cons.2 ⟨⟨by decide, Iv a.epoch, Iv b.epoch, Zay rfl rfl rfl, Zay rfl rfl rfl, Zes rfl⟩, List.forall_mem_cons.2 ⟨⟨by decide, Iv a.node, Iv b.node, Zay rfl rfl rfl, Zay rfl rfl rfl, Zes rfl⟩, List.forall_mem_cons.2 ⟨⟨by decide, Iv a.size, Iv b.size, Zay rfl rfl rfl, Zay rfl rfl rfl, Zes rfl⟩, List.forall_mem_cons.2 ⟨⟨by decide, .agg (Zdw w8 32 a.root).toArray, .agg (Zdw w8 32 b.root).toArray, Zb3 (n := 32) rfl rfl rfl rfl rfl, Zb3 (n := 32) rfl rfl rfl rfl rfl, Zlk rfl rfl rfl⟩, fun _ h => absurd h (by simp)⟩⟩⟩⟩⟩)
theorem Zd2 {x y : Operand} (a b : Claim) : Zdf Try.prog .eql 36 x y (Zy a) (Zy b) = some (.bool (Zv a b)) := Zn5 (by kernel_rfl) (by kernel_rfl) (Zlj a b (d := 9997))
theorem Zib {x y : Operand} (a b : Claim) : Zdf Try.prog .neq 36 x y (Zy a) (Zy b) = some (.bool (!Zv a b)) := Zsk (by kernel_rfl) (by kernel_rfl) (Zlj a b (d := 9997))
theorem Zas (a : Claim) : Zv a a = true := by simp [Zv, Zem]
def okClaim (a : Claim) : Prop := (-9223372036854775808 ≤ a.region ∧ a.region ≤ 9223372036854775807) ∧ (-9223372036854775808 ≤ a.epoch ∧ a.epoch ≤ 9223372036854775807) ∧ (-9223372036854775808 ≤ a.node ∧ a.node ≤ 9223372036854775807) ∧ (-9223372036854775808 ≤ a.size ∧ a.size ≤ 9223372036854775807) ∧ True ∧ True
theorem Zht : Zak Try.prog 36 Zr okClaim := by
 intro H encH W fuel cs x h
 obtain ⟨xs, n, _, _, hl, hxl, hel⟩ := DataW.trod_struct (P := Try.prog) (t := 36) (fs := _) rfl h
 have hl' : cs.length = 36 := hl.trans (by kernel_rfl)
 obtain ⟨a0, e0, k0⟩ := Zak.at_ (t := 3) (off := 0) (k := 1) (Zak.int (by kernel_rfl)) (hel 0 _ rfl) (by rw [hxl]; decide) rfl (by kernel_rfl) rfl
 have q0 : cs.drop 0 = [Iv a0] ++ cs.drop 1 := by rw [Zal 0 1, e0]
 obtain ⟨a1, e1, k1⟩ := Zak.at_ (t := 3) (off := 1) (k := 1) (Zak.int (by kernel_rfl)) (hel 1 _ rfl) (by rw [hxl]; decide) rfl (by kernel_rfl) rfl
 have q1 : cs.drop 1 = [Iv a1] ++ cs.drop 2 := by rw [Zal 1 1, e1]
 obtain ⟨a2, e2, k2⟩ := Zak.at_ (t := 3) (off := 2) (k := 1) (Zak.int (by kernel_rfl)) (hel 2 _ rfl) (by rw [hxl]; decide) rfl (by kernel_rfl) rfl
 have q2 : cs.drop 2 = [Iv a2] ++ cs.drop 3 := by rw [Zal 2 1, e2]
 obtain ⟨a3, e3, k3⟩ := Zak.at_ (t := 3) (off := 3) (k := 1) (Zak.int (by kernel_rfl)) (hel 3 _ rfl) (by rw [hxl]; decide) rfl (by kernel_rfl) rfl
 have q3 : cs.drop 3 = [Iv a3] ++ cs.drop 4 := by rw [Zal 3 1, e3]
 obtain ⟨a4, e4, k4⟩ := Zak.at_ (t := 30) (off := 4) (k := 32) (Zak.bytes (n := 32) (tb := 5) (by kernel_rfl) (by kernel_rfl) (by kernel_rfl) (by kernel_rfl)) (hel 4 _ rfl) (by rw [hxl]; decide) rfl (by kernel_rfl) rfl
 have q4 : cs.drop 4 = Zdw w8 32 a4 ++ cs.drop 36 := by rw [Zal 4 32, e4]
 have qe : cs.drop 36 = [] := List.drop_of_length_le (by omega)
 refine ⟨⟨a0, a1, a2, a3, a4⟩, ?_, k0, k1, k2, k3, k4, trivial⟩
 rw [List.drop_zero] at q0
 rw [q0, q1, q2, q3, q4, qe]
 simp [Zr]
def Zff (a b : Entry) : Bool := ((a.kind == b.kind) && ((a.client == b.client) && ((a.seq == b.seq) && ((a.text == b.text) && ((Zea a.head b.head) && ((Zv a.claim b.claim) && true))))))
theorem Zpb (a b : Entry) {d : Nat} : Z0 Try.prog (Op.equalIn (d + 5) 38 (Zc7 a) (Zc7 b)) = some (Zff a b) :=
 eqS (P := Try.prog) (d + 4) 38 _ (Zc6 a).toArray (Zc6 b).toArray (fun f => if f.offset = 0 then (a.kind == b.kind) else if f.offset = 1 then (a.client == b.client) else if f.offset = 2 then (a.seq == b.seq) else if f.offset = 3 then (a.text == b.text) else if f.offset = 4 then (Zea a.head b.head) else if f.offset = 73 then (Zv a.claim b.claim) else true) rfl (by kernel_rfl) (List.forall_mem_cons.2 ⟨⟨by decide, Iv a.kind, Iv b.kind, Zay rfl rfl rfl, Zay rfl rfl rfl, Zes rfl⟩, List.forall_mem_cons.2 ⟨⟨by decide, Iv a.client, Iv b.client, Zay rfl rfl rfl, Zay rfl rfl rfl, Zes rfl⟩, List.forall_mem_cons.2 ⟨⟨by decide, Iv a.seq, Iv b.seq, Zay rfl rfl rfl, Zay rfl rfl rfl, Zes rfl⟩, List.forall_mem_cons.2 ⟨⟨by decide, .string a.text, .string b.text, Zay rfl rfl rfl, Zay rfl rfl rfl, Zs2 rfl⟩, List.forall_mem_cons.2 ⟨⟨by decide, Zig a.head, Zig b.head, Zb3 (n := 69) rfl rfl rfl rfl rfl, Zb3 (n := 69) rfl rfl rfl rfl rfl, Zs1 a.head b.head⟩, List.forall_mem_cons.2 ⟨⟨by decide, Zy a.claim, Zy b.claim, Zb3 (n := 36) rfl rfl rfl rfl rfl, Zb3 (n := 36) rfl rfl rfl rfl rfl, Zlj a.claim b.claim⟩, fun _ h => absurd h (by simp)⟩⟩⟩⟩⟩⟩)
theorem Zfu {x y : Operand} (a b : Entry) : Zdf Try.prog .eql 38 x y (Zc7 a) (Zc7 b) = some (.bool (Zff a b)) := Zn5 (by kernel_rfl) (by kernel_rfl) (Zpb a b (d := 9995))
theorem Zqs (a : Entry) : Zff a a = true := by simp [Zff, Zem, Zim, Zas]
def okEntry (a : Entry) : Prop := (-9223372036854775808 ≤ a.kind ∧ a.kind ≤ 9223372036854775807) ∧ (-9223372036854775808 ≤ a.client ∧ a.client ≤ 9223372036854775807) ∧ (-9223372036854775808 ≤ a.seq ∧ a.seq ≤ 9223372036854775807) ∧ (a.text.size ≤ maxLen) ∧ okSigned a.head ∧ okClaim a.claim ∧ True
theorem Zpr : Zak Try.prog 38 Zc6 okEntry := by
 intro H encH W fuel cs x h
 obtain ⟨xs, n, _, _, hl, hxl, hel⟩ := DataW.trod_struct (P := Try.prog) (t := 38) (fs := _) rfl h
 have hl' : cs.length = 109 := hl.trans (by kernel_rfl)
 obtain ⟨a0, e0, k0⟩ := Zak.at_ (t := 28) (off := 0) (k := 1) (Zak.int (by kernel_rfl)) (hel 0 _ rfl) (by rw [hxl]; decide) rfl (by kernel_rfl) rfl
 have q0 : cs.drop 0 = [Iv a0] ++ cs.drop 1 := by rw [Zal 0 1, e0]
 obtain ⟨a1, e1, k1⟩ := Zak.at_ (t := 3) (off := 1) (k := 1) (Zak.int (by kernel_rfl)) (hel 1 _ rfl) (by rw [hxl]; decide) rfl (by kernel_rfl) rfl
 have q1 : cs.drop 1 = [Iv a1] ++ cs.drop 2 := by rw [Zal 1 1, e1]
 obtain ⟨a2, e2, k2⟩ := Zak.at_ (t := 3) (off := 2) (k := 1) (Zak.int (by kernel_rfl)) (hel 2 _ rfl) (by rw [hxl]; decide) rfl (by kernel_rfl) rfl
 have q2 : cs.drop 2 = [Iv a2] ++ cs.drop 3 := by rw [Zal 2 1, e2]
 obtain ⟨a3, e3, k3⟩ := Zak.at_ (t := 9) (off := 3) (k := 1) (Zak.str (by kernel_rfl)) (hel 3 _ rfl) (by rw [hxl]; decide) rfl (by kernel_rfl) rfl
 have q3 : cs.drop 3 = [.string a3] ++ cs.drop 4 := by rw [Zal 3 1, e3]
 obtain ⟨a4, e4, k4⟩ := Zak.at_ (t := 34) (off := 4) (k := 69) (Zof) (hel 4 _ rfl) (by rw [hxl]; decide) rfl (by kernel_rfl) rfl
 have q4 : cs.drop 4 = Zg6 a4 ++ cs.drop 73 := by rw [Zal 4 69, e4]
 obtain ⟨a5, e5, k5⟩ := Zak.at_ (t := 36) (off := 73) (k := 36) (Zht) (hel 5 _ rfl) (by rw [hxl]; decide) rfl (by kernel_rfl) rfl
 have q5 : cs.drop 73 = Zr a5 ++ cs.drop 109 := by rw [Zal 73 36, e5]
 have qe : cs.drop 109 = [] := List.drop_of_length_le (by omega)
 refine ⟨⟨a0, a1, a2, a3, a4, a5⟩, ?_, k0, k1, k2, k3, k4, k5, trivial⟩
 rw [List.drop_zero] at q0
 rw [q0, q1, q2, q3, q4, q5, qe]
 simp [Zc6]
def Z3 (a b : Item) : Bool := ((a.epoch == b.epoch) && ((Zff a.entry b.entry) && true))
theorem Zr9 (a b : Item) {d : Nat} : Z0 Try.prog (Op.equalIn (d + 6) 40 (Zao a) (Zao b)) = some (Z3 a b) :=
 eqS (P := Try.prog) (d + 5) 40 _ (Zs a).toArray (Zs b).toArray (fun f => if f.offset = 0 then (a.epoch == b.epoch) else if f.offset = 1 then (Zff a.entry b.entry) else true) rfl (by kernel_rfl) (List.forall_mem_cons.2 ⟨⟨by decide, Iv a.epoch, Iv b.epoch, Zay rfl rfl rfl, Zay rfl rfl rfl, Zes rfl⟩, List.forall_mem_cons.2 ⟨⟨by decide, Zc7 a.entry, Zc7 b.entry, Zb3 (n := 109) rfl rfl rfl rfl rfl, Zb3 (n := 109) rfl rfl rfl rfl rfl, Zpb a.entry b.entry⟩, fun _ h => absurd h (by simp)⟩⟩)
theorem Zet {x y : Operand} (a b : Item) : Zdf Try.prog .eql 40 x y (Zao a) (Zao b) = some (.bool (Z3 a b)) := Zn5 (by kernel_rfl) (by kernel_rfl) (Zr9 a b (d := 9994))
theorem Zpp {x y : Operand} (a b : Item) : Zdf Try.prog .neq 40 x y (Zao a) (Zao b) = some (.bool (!Z3 a b)) := Zsk (by kernel_rfl) (by kernel_rfl) (Zr9 a b (d := 9994))
theorem Za4 (a : Item) : Z3 a a = true := by simp [Z3, Zem, Zqs]
def okItem (a : Item) : Prop := (-9223372036854775808 ≤ a.epoch ∧ a.epoch ≤ 9223372036854775807) ∧ okEntry a.entry ∧ True
theorem Zi0 : Zak Try.prog 40 Zs okItem := by
 intro H encH W fuel cs x h
 obtain ⟨xs, n, _, _, hl, hxl, hel⟩ := DataW.trod_struct (P := Try.prog) (t := 40) (fs := _) rfl h
 have hl' : cs.length = 110 := hl.trans (by kernel_rfl)
 obtain ⟨a0, e0, k0⟩ := Zak.at_ (t := 3) (off := 0) (k := 1) (Zak.int (by kernel_rfl)) (hel 0 _ rfl) (by rw [hxl]; decide) rfl (by kernel_rfl) rfl
 have q0 : cs.drop 0 = [Iv a0] ++ cs.drop 1 := by rw [Zal 0 1, e0]
 obtain ⟨a1, e1, k1⟩ := Zak.at_ (t := 38) (off := 1) (k := 109) (Zpr) (hel 1 _ rfl) (by rw [hxl]; decide) rfl (by kernel_rfl) rfl
 have q1 : cs.drop 1 = Zc6 a1 ++ cs.drop 110 := by rw [Zal 1 109, e1]
 have qe : cs.drop 110 = [] := List.drop_of_length_le (by omega)
 refine ⟨⟨a0, a1⟩, ?_, k0, k1, trivial⟩
 rw [List.drop_zero] at q0
 rw [q0, q1, qe]
 simp [Zs]
end
theorem Zaz (n low high : Int) : Zar Try.prog G 59 [Iv n, Iv low, Iv high] [] (.bool (Zb7 n low high)) [] := by
 refine Zcu (fn := Try.f59) (nt := 15) rfl rfl rfl rfl ?_
 refine Zj (Zl (Zc (.bool false) (Zd (Zf (Zj (Zl (Zb (Iv n) (Zb (Iv low) ?_))))))))
 by_cases h1 : low ≤ n
 refine Zn (vx := Iv n) (vy := Iv low) rfl rfl (.bool true) rfl rfl (Zfg (by omega)) ?_
 refine Zb (.bool true) (Zb (Iv n) (Zb (Iv high) ?_))
 by_cases h2 : n ≤ high
 refine Zn (vx := Iv n) (vy := Iv high) rfl rfl (.bool true) rfl rfl (Zna (by omega)) ?_
 refine Zh (.bool true) (Zc (.bool true) (Zd (Zf (Zq (Zp ?_)))))
 rw [show Zb7 n low high = true from Za2 (by omega) (by omega)]
 exact Zm (v := .bool true) rfl rfl rfl (by kernel_rfl) rfl
 refine Zn (vx := Iv n) (vy := Iv high) rfl rfl (.bool false) rfl rfl (Zm9 (by omega)) ?_
 refine Zh (.bool false) (Zc (.bool false) (Zd (Zf (Zq (Zp ?_)))))
 rw [show Zb7 n low high = false from Z4 (by omega)]
 exact Zm (v := .bool false) rfl rfl rfl (by kernel_rfl) rfl
 refine Zn (vx := Iv n) (vy := Iv low) rfl rfl (.bool false) rfl rfl (Zjf (by omega)) ?_
 refine Zb (.bool false) (Za (Za (Za (Zh (.bool false) (Zc (.bool false) (Zd (Zf (Zq (Zp ?_)))))))))
 rw [show Zb7 n low high = false from Z4 (by omega)]
 exact Zm (v := .bool false) rfl rfl rfl (by kernel_rfl) rfl
theorem Zbu (b : Bool) : Zar Try.prog G 58 [.bool b] [] (Iv (if b then 0 else 60)) [] := by
 refine Zcu (fn := Try.f58) (nt := 4) rfl rfl rfl rfl ?_
 refine Zj (Zl (Zc (Iv 0) (Zd (Zf (Zj (Zj (Zl (Zb (.bool b) (Zd (Zf ?_))))))))))
 rcases Bool.eq_false_or_eq_true b with h1 | h1
 refine Z5 (congrArg Value.bool h1) (Zj (Zl (Zc (Iv 0) (Zd (Zf (Zq (Z2 (Zp ?_))))))))
 rw [show (if b = true then (0 : Int) else 60) = 0 from by simp [*]]
 exact Zm (v := Iv 0) rfl rfl rfl (by kernel_rfl) rfl
 refine Zw (congrArg Value.bool h1) (Z8 (Zf (Zj (Zl (Zc (Iv 60) (Zd (Zf (Zq (Zp ?_)))))))))
 rw [show (if b = true then (0 : Int) else 60) = 60 from by simp [*]]
 exact Zm (v := Iv 60) rfl rfl rfl (by kernel_rfl) rfl
theorem Zgd (c : Claim) : Zar Try.prog G 44 [Zy c] [] (Iv (Zd6 c)) [] := by
 refine Zcu (fn := Try.f44) (nt := 22) rfl rfl rfl rfl ?_
 refine Zbo 1 (H' := [hole]) rfl ?_
 refine Zj (Zl (Zbx (v := Zy c) (b := bxB 36 (Zr c)) (nid := 0) (H' := [bxB 36 (Zr c)]) (Zc (Iv 0) (Zd (Zf (Zj (Zl (Ze (b := 0) (o := 0) (n := 0) (o' := 0) (Zk (p := pt 0 0) (v := Iv c.region) ?_)))))))))
 by_cases h1 : 1 ≤ c.region
 by_cases h2 : c.region ≤ 5
 refine Zt ((Zaz (G := G) c.region 1 5).res (congrArg Value.bool (Za2 (by omega) (by omega)))) (vals := [Iv c.region, Iv 1, Iv 5]) (res' := .bool true) rfl rfl rfl rfl rfl rfl ?_
 refine Zb (.bool true) (Ze (b := 0) (o := 0) (n := 1) (o' := 1) (Zk (p := pt 0 1) (v := Iv c.epoch) ?_))
 by_cases h3 : 1 ≤ c.epoch
 by_cases h4 : c.epoch ≤ 900000000
 refine Zt ((Zaz (G := G) c.epoch 1 900000000).res (congrArg Value.bool (Za2 (by omega) (by omega)))) (vals := [Iv c.epoch, Iv 1, Iv 900000000]) (res' := .bool true) rfl rfl rfl rfl rfl rfl ?_
 refine Zh (.bool true) (Zb (.bool true) (Ze (b := 0) (o := 0) (n := 2) (o' := 2) (Zk (p := pt 0 2) (v := Iv c.node) ?_)))
 by_cases h5 : 1 ≤ c.node
 by_cases h6 : c.node ≤ 3
 refine Zt ((Zaz (G := G) c.node 1 3).res (congrArg Value.bool (Za2 (by omega) (by omega)))) (vals := [Iv c.node, Iv 1, Iv 3]) (res' := .bool true) rfl rfl rfl rfl rfl rfl ?_
 refine Zh (.bool true) (Zb (.bool true) (Ze (b := 0) (o := 0) (n := 3) (o' := 3) (Zk (p := pt 0 3) (v := Iv c.size) ?_)))
 by_cases h7 : 0 ≤ c.size
 by_cases h8 : c.size ≤ 100000
 refine Zt ((Zaz (G := G) c.size 0 100000).res (congrArg Value.bool (Za2 (by omega) (by omega)))) (vals := [Iv c.size, Iv 0, Iv 100000]) (res' := .bool true) rfl rfl rfl rfl rfl rfl ?_
 refine Zh (.bool true) ?_
 refine Zt (Zbu (G := G) true) (vals := [.bool true]) (res' := Iv 0) rfl rfl rfl rfl rfl rfl ?_
 refine Zc (Iv 0) (Zd (Zf (Zq (Zp ?_))))
 rw [show Zd6 c = 0 from if_pos (by unfold Zda; omega)]
 exact Zm (v := Iv 0) rfl rfl rfl (by kernel_rfl) rfl
 refine Zt ((Zaz (G := G) c.size 0 100000).res (congrArg Value.bool (Z4 (by omega)))) (vals := [Iv c.size, Iv 0, Iv 100000]) (res' := .bool false) rfl rfl rfl rfl rfl rfl ?_
 refine Zh (.bool false) ?_
 refine Zt (Zbu (G := G) false) (vals := [.bool false]) (res' := Iv 60) rfl rfl rfl rfl rfl rfl ?_
 refine Zc (Iv 60) (Zd (Zf (Zq (Zp ?_))))
 rw [show Zd6 c = 60 from if_neg (by unfold Zda; omega)]
 exact Zm (v := Iv 60) rfl rfl rfl (by kernel_rfl) rfl
 refine Zt ((Zaz (G := G) c.size 0 100000).res (congrArg Value.bool (Z4 (by omega)))) (vals := [Iv c.size, Iv 0, Iv 100000]) (res' := .bool false) rfl rfl rfl rfl rfl rfl ?_
 refine Zh (.bool false) ?_
 refine Zt (Zbu (G := G) false) (vals := [.bool false]) (res' := Iv 60) rfl rfl rfl rfl rfl rfl ?_
 refine Zc (Iv 60) (Zd (Zf (Zq (Zp ?_))))
 rw [show Zd6 c = 60 from if_neg (by unfold Zda; omega)]
 exact Zm (v := Iv 60) rfl rfl rfl (by kernel_rfl) rfl
 refine Zt ((Zaz (G := G) c.node 1 3).res (congrArg Value.bool (Z4 (by omega)))) (vals := [Iv c.node, Iv 1, Iv 3]) (res' := .bool false) rfl rfl rfl rfl rfl rfl ?_
 refine Zh (.bool false) (Zb (.bool false) (Za (Za (Za (Zh (.bool false) ?_)))))
 refine Zt (Zbu (G := G) false) (vals := [.bool false]) (res' := Iv 60) rfl rfl rfl rfl rfl rfl ?_
 refine Zc (Iv 60) (Zd (Zf (Zq (Zp ?_))))
 rw [show Zd6 c = 60 from if_neg (by unfold Zda; omega)]
 exact Zm (v := Iv 60) rfl rfl rfl (by kernel_rfl) rfl
 refine Zt ((Zaz (G := G) c.node 1 3).res (congrArg Value.bool (Z4 (by omega)))) (vals := [Iv c.node, Iv 1, Iv 3]) (res' := .bool false) rfl rfl rfl rfl rfl rfl ?_
 refine Zh (.bool false) (Zb (.bool false) (Za (Za (Za (Zh (.bool false) ?_)))))
 refine Zt (Zbu (G := G) false) (vals := [.bool false]) (res' := Iv 60) rfl rfl rfl rfl rfl rfl ?_
 refine Zc (Iv 60) (Zd (Zf (Zq (Zp ?_))))
 rw [show Zd6 c = 60 from if_neg (by unfold Zda; omega)]
 exact Zm (v := Iv 60) rfl rfl rfl (by kernel_rfl) rfl
 refine Zt ((Zaz (G := G) c.epoch 1 900000000).res (congrArg Value.bool (Z4 (by omega)))) (vals := [Iv c.epoch, Iv 1, Iv 900000000]) (res' := .bool false) rfl rfl rfl rfl rfl rfl ?_
 refine Zh (.bool false) (Zb (.bool false) (Za (Za (Za (Zh (.bool false) (Zb (.bool false) (Za (Za (Za (Zh (.bool false) ?_))))))))))
 refine Zt (Zbu (G := G) false) (vals := [.bool false]) (res' := Iv 60) rfl rfl rfl rfl rfl rfl ?_
 refine Zc (Iv 60) (Zd (Zf (Zq (Zp ?_))))
 rw [show Zd6 c = 60 from if_neg (by unfold Zda; omega)]
 exact Zm (v := Iv 60) rfl rfl rfl (by kernel_rfl) rfl
 refine Zt ((Zaz (G := G) c.epoch 1 900000000).res (congrArg Value.bool (Z4 (by omega)))) (vals := [Iv c.epoch, Iv 1, Iv 900000000]) (res' := .bool false) rfl rfl rfl rfl rfl rfl ?_
 refine Zh (.bool false) (Zb (.bool false) (Za (Za (Za (Zh (.bool false) (Zb (.bool false) (Za (Za (Za (Zh (.bool false) ?_))))))))))
 refine Zt (Zbu (G := G) false) (vals := [.bool false]) (res' := Iv 60) rfl rfl rfl rfl rfl rfl ?_
 refine Zc (Iv 60) (Zd (Zf (Zq (Zp ?_))))
 rw [show Zd6 c = 60 from if_neg (by unfold Zda; omega)]
 exact Zm (v := Iv 60) rfl rfl rfl (by kernel_rfl) rfl
 refine Zt ((Zaz (G := G) c.region 1 5).res (congrArg Value.bool (Z4 (by omega)))) (vals := [Iv c.region, Iv 1, Iv 5]) (res' := .bool false) rfl rfl rfl rfl rfl rfl ?_
 refine Zb (.bool false) (Za (Za (Za (Zh (.bool false) (Zb (.bool false) (Za (Za (Za (Zh (.bool false) (Zb (.bool false) (Za (Za (Za (Zh (.bool false) ?_))))))))))))))
 refine Zt (Zbu (G := G) false) (vals := [.bool false]) (res' := Iv 60) rfl rfl rfl rfl rfl rfl ?_
 refine Zc (Iv 60) (Zd (Zf (Zq (Zp ?_))))
 rw [show Zd6 c = 60 from if_neg (by unfold Zda; omega)]
 exact Zm (v := Iv 60) rfl rfl rfl (by kernel_rfl) rfl
 refine Zt ((Zaz (G := G) c.region 1 5).res (congrArg Value.bool (Z4 (by omega)))) (vals := [Iv c.region, Iv 1, Iv 5]) (res' := .bool false) rfl rfl rfl rfl rfl rfl ?_
 refine Zb (.bool false) (Za (Za (Za (Zh (.bool false) (Zb (.bool false) (Za (Za (Za (Zh (.bool false) (Zb (.bool false) (Za (Za (Za (Zh (.bool false) ?_))))))))))))))
 refine Zt (Zbu (G := G) false) (vals := [.bool false]) (res' := Iv 60) rfl rfl rfl rfl rfl rfl ?_
 refine Zc (Iv 60) (Zd (Zf (Zq (Zp ?_))))
 rw [show Zd6 c = 60 from if_neg (by unfold Zda; omega)]
 exact Zm (v := Iv 60) rfl rfl rfl (by kernel_rfl) rfl
end Go.Flat
