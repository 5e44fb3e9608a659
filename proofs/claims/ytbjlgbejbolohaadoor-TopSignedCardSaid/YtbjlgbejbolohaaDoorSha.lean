/- Walks. -/
import Derived.Test.YtbjlgbejbolohaaDoorFlatC
import Derived.Test.YtbjlgbejbolohaaDoorProg
set_option maxRecDepth 20000
set_option linter.unusedVariables false
set_option linter.unusedSimpArgs false
section
namespace Go.Flat
open Go.Proofs
variable {G : Glob}
def rot (x : BitVec 32) (n : Nat) : BitVec 32 := x <<< n ||| x >>> (32 - n)

theorem Z4s (k : Int) : (BitVec.ofInt 64 k &&& BitVec.ofInt 64 31).toNat = (k % 32).toNat := by
 have h31 : (BitVec.ofInt 64 31).toNat = 2 ^ 5 - 1 := rfl
 rw [BitVec.toNat_and, h31, Nat.and_two_pow_sub_one_eq_mod, BitVec.toNat_ofInt]
 omega
theorem Zx9 (x : BitVec 32) (k : Int) : Zac Tryd.prog G 70 [w32 x, Iv k] [] (w32 (rot x (k % 32).toNat)) [] := by
 refine Zb8 (fn := Tryd.f70) (nt := 17) rfl rfl rfl rfl ?_
 repeat (first
  | ((with_reducible apply Zd); rfl; rfl; (exact (rfl : _ = Value.int _ _)))
  | ((with_reducible apply Zc); rfl; rfl; (exact (rfl : _ = Value.int _ _)))
  | ((with_reducible apply Zi); rfl; rfl; (exact (rfl : _ = Value.int _ _)); (exact (rfl : _ = Value.int _ _)); (first
  | with_reducible exact or32 (by first | exact ofI _ _ | rfl) (by first | exact ofI _ _ | rfl)
  | with_reducible exact Z4x (by first | exact ofI _ _ | rfl) (by omega)
  | with_reducible exact Z2f (by omega)
  | with_reducible exact Z0n (by first | exact ofI _ _ | rfl) (by first | exact ofI _ _ | rfl)
  | with_reducible exact sub64 (by first | exact ofI _ _ | rfl) (by first | exact ofI _ _ | rfl)))
  | ((with_reducible apply Zcc); rfl; rfl; (exact (rfl : _ = Value.int _ _)); (exact Zms rfl rfl (by first | exact Ze2 _ | rfl)))
  | with_reducible refine Za ?_
  | with_reducible refine Zf ?_
  | with_reducible refine Ze ?_
  | with_reducible refine Zw ?_
  | with_reducible refine Zb ?_)
 refine Zy ?_
 refine Zdx (v := .int _ _) rfl rfl ?_
 have h2 : (BitVec.ofInt 64 32 - (BitVec.ofInt 64 k &&& BitVec.ofInt 64 31)).toNat = 32 - (k % 32).toNat := by
  have h3 := Z4s k
  have h32 : (BitVec.ofInt 64 32).toNat = 32 := rfl
  rw [BitVec.toNat_sub, h3, h32]
  omega
 simp only [Int.toNat_natCast, h2, Z4s, rot]
def Zju (x : BitVec 32) (a b : Int) (z : BitVec 32) : BitVec 32 := rot x ((0 - a) % 32).toNat ^^^ rot x ((0 - b) % 32).toNat ^^^ z
theorem Zmj (x : BitVec 32) (a b : Int) (z : BitVec 32) (ha : 0 ≤ a ∧ a ≤ 32) (hb : 0 ≤ b ∧ b ≤ 32) : Zac Tryd.prog G 69 [w32 x, Iv a, Iv b, w32 z] [] (w32 (Zju x a b z)) [] := by
 refine Zb8 (fn := Tryd.f69) (nt := 20) rfl rfl rfl rfl ?_
 repeat (first
  | ((with_reducible apply Zd); rfl; rfl; (exact (rfl : _ = Value.int _ _)))
  | ((with_reducible apply Zc); rfl; rfl; (exact (rfl : _ = Value.int _ _)))
  | ((with_reducible apply Zi); rfl; rfl; (exact (rfl : _ = Value.int _ _)); (exact (rfl : _ = Value.int _ _)); (with_reducible exact Z40 (by first | exact ofI _ _ | rfl) (by first | exact ofI _ _ | rfl)))
  | ((with_reducible apply Zhl); rfl; rfl; (exact (rfl : _ = Value.int _ _)); (exact Z66 rfl (by omega) (by omega)))
  | ((with_reducible apply Zv (Zx9 _ _)); rfl; rfl; rfl; rfl; rfl; (exact (rfl : _ = Value.int _ _)))
  | with_reducible refine Za ?_
  | with_reducible refine Zf ?_
  | with_reducible refine Ze ?_
  | with_reducible refine Zw ?_
  | with_reducible refine Zb ?_)
 refine Zy ?_
 exact Zdx (v := .int _ _) rfl rfl rfl
end Go.Flat
end
section
namespace Go.Flat
open Go.Proofs
variable {G : Glob}
def inB (w : Nat → BitVec 32) (i : Nat) (x : BitVec 8) : Nat → BitVec 32 := Ze9 w (i / 4) (w (i / 4) <<< 8 ||| x.setWidth 32)
def Zj0 (b : Nat → BitVec 8) : Nat → Nat → BitVec 32
  | 0 => fun _ => 0
  | i + 1 => inB (Zj0 b i) i (b i)
def Zkh (k : BitVec 32) (v w : Nat → BitVec 32) (t : Nat) : BitVec 32 := v 7 + Zju (v 4) 6 11 (rot (v 4) ((-25 : Int) % 32).toNat) + (v 6 ^^^ (v 4 &&& (v 5 ^^^ v 6))) + k + w (t % 16)
def Zmd (v : Nat → BitVec 32) : BitVec 32 := Zju (v 0) 2 13 (rot (v 0) ((-22 : Int) % 32).toNat) + ((v 0 &&& v 1) ^^^ (v 0 &&& v 2) ^^^ (v 1 &&& v 2))
def Zp0 (p q : BitVec 32) (v : Nat → BitVec 32) : Nat → BitVec 32 := fun k => if k = 0 then p + q else if k = 4 then v 3 + p else v (k - 1)
def Zp1 (w : Nat → BitVec 32) (t : Nat) : Nat → BitVec 32 := Ze9 w (t % 16) (w (t % 16) + (w ((t + 9) % 16) + Zju (w ((t + 1) % 16)) 7 18 (w ((t + 1) % 16) >>> 3) + Zju (w ((t + 14) % 16)) 17 19 (w ((t + 14) % 16) >>> 10)))
def Zp3 (kk : Nat → BitVec 32) (v w : Nat → BitVec 32) : Nat → (Nat → BitVec 32) × (Nat → BitVec 32)
  | 0 => (v, w)
  | t + 1 => let p := Zp3 kk v w t; (Zp0 (Zkh (kk t) p.1 p.2 t) (Zmd p.1) p.1, Zp1 p.2 t)
def Zr9 (v V : Nat → BitVec 32) : Nat → Nat → BitVec 32
  | 0 => v
  | i + 1 => Ze9 (Zr9 v V i) i (Zr9 v V i i + V i)
def Z2b (kk : Nat → BitVec 32) (v : Nat → BitVec 32) (b : Nat → BitVec 8) : Nat → BitVec 32 := Zr9 v (Zp3 kk v (Zj0 b 64) 64).1 8

abbrev pt (b o : Nat) : Value := .pointer (some ⟨b, o, none⟩)
abbrev sl (b o n c : Nat) : Value := .slice (some ⟨b, o, none⟩) n c
def stB (v : Nat → BitVec 32) (r n : Value) : Blk := { cells := Zaa w32 8 v ++ [r, n], sz := 10, wr := true, fix := true, mv := false, pur := false }
def byB (n : Nat) (b : Nat → BitVec 8) : Blk := { cells := Zaa w8 n b, sz := 1, wr := false, fix := false, mv := true, pur := true }
def wB (w : Nat → BitVec 32) : Blk := { cells := Zaa w32 16 w, sz := 16, wr := true, fix := true, mv := false, pur := true }
def vB (v : Nat → BitVec 32) : Blk := { cells := Zaa w32 8 v, sz := 8, wr := true, fix := true, mv := false, pur := true }

set_option maxHeartbeats 4000000 in
theorem Z2c (kk : Nat → BitVec 32) (hG : G 0 = some (Zaa w32 64 kk)) (v : Nat → BitVec 32) (b : Nat → BitVec 8) (m c c' : Nat) (n : BitVec 64) :
  Zac Tryd.prog G 59 [pt 0 0, sl 1 0 64 c'] [stB v (sl 1 0 m c) (w64 n), byB 64 b] (.tuple #[]) [stB (Z2b kk v b) (sl 1 0 m c) (w64 n), byB 64 b] := by
 refine Zb8 (fn := Tryd.f59) (nt := 156) rfl rfl rfl rfl ?_
 refine Zah 2 (H' := [stB v (sl 1 0 m c) (w64 n), byB 64 b, hole, hole]) rfl ?_
 repeat (first
  | ((with_reducible apply Zd); rfl; rfl; (first
  | exact (rfl : _ = Value.int _ _)
  | exact (rfl : _ = Value.slice _ _ _)))
  | ((with_reducible apply Za6); rfl; rfl; (exact (rfl : _ = Value.slice _ _ _)); (exact (rfl : _ = some (Value.int _ _))))
  | ((with_reducible apply Zq (nid := 2)); rfl; rfl; rfl; exact (rfl : _ = _ :: _))
  | with_reducible refine Za ?_
  | with_reducible refine Zf ?_
  | with_reducible refine Ze ?_
  | with_reducible refine Z1 ?_
  | with_reducible refine Zb ?_)
 refine Zby (fun i => [pt 0 0, sl 1 0 64 c', dead, dead, pt 2 0] ++ List.replicate 13 dead ++ [sl 1 0 64 c', Iv 64, Iv (i : Nat)]) (fun i : Nat => [stB v (sl 1 0 m c) (w64 n), byB 64 b, wB (Zj0 b i), hole]) (fun i => i ≤ 64) (fun i => 64 - i) 0 (by omega) ?_ ?_
 ·refine Z2 (n := 4) rfl ?_ rfl ?_
  repeat (first | exact trivial | refine ⟨.inl rfl, ?_⟩ | refine ⟨.inr ⟨rfl, rfl⟩, ?_⟩)
  ·rfl
 ·intro i hi
  by_cases hlt : i < 64
  repeat (first
   | ((with_reducible apply Zdq (j := i / 4)); rfl; rfl; exact (rfl : _ = Value.pointer (some ⟨_, _, _⟩)); (exact (rfl : _ = Value.int _ _)); (exact (rfl : _ = some (_, 1))); omega; omega; omega)
   | ((with_reducible apply Zbe (j := i)); rfl; rfl; exact (rfl : _ = Value.slice (some ⟨_, _, _⟩) _ _); (exact (rfl : _ = Value.int _ _)); (exact (rfl : _ = some (_, 1))); omega; omega; omega)
   | ((with_reducible apply Zd); rfl; rfl; (exact (rfl : _ = Value.int _ _)))
   | ((with_reducible apply Zc); rfl; rfl; (exact (rfl : _ = Value.int _ _)))
   | ((with_reducible apply Zi); rfl; rfl; (exact (rfl : _ = Value.int _ _)); (exact (rfl : _ = Value.int _ _)); (first
   | with_reducible exact Zcv (by omega)
   | with_reducible exact Zap rfl (by omega) (by omega)
   | with_reducible exact or32 (by first | exact ofI _ _ | rfl) (by first | exact ofI _ _ | rfl)
   | with_reducible exact Z4x (by first | exact ofI _ _ | rfl) (by omega)
   | with_reducible exact Z4v (by omega) (by omega) (by omega)))
   | ((with_reducible apply Zcc); rfl; rfl; (exact (rfl : _ = Value.int _ _)); (exact Z6h rfl rfl (by first | exact Ze2 _ | rfl)))
   | ((with_reducible apply Zg); rfl; rfl; exact (rfl : _ = Value.pointer (some ⟨_, _, _⟩)); (exact Ziw rfl rfl rfl (by omega) (fun _ => rfl)))
   | ((with_reducible apply Zj); rfl; exact (rfl : _ = Value.pointer (some ⟨_, _, _⟩)); (exact (rfl : _ = Value.int _ _)); (exact Zho rfl rfl rfl rfl rfl (by omega) rfl rfl); exact (rfl : _ = _ :: _))
   | with_reducible refine Za ?_
   | with_reducible refine Zf ?_
   | with_reducible refine Ze ?_
   | with_reducible refine Z1 ?_
   | with_reducible refine Z0 ?_
   | with_reducible refine Zb ?_
   | with_reducible refine Zag ?_
   | ((with_reducible apply Zu); rfl))
  refine Zx ⟨i + 1, by omega, by omega, ?_⟩
  refine Z2 (n := 4) rfl ?_ ?_ ?_ <;> try rfl
  repeat (first | exact trivial | refine ⟨.inl rfl, ?_⟩ | refine ⟨.inr ⟨rfl, rfl⟩, ?_⟩)
  ·obtain rfl : i = 64 := by omega
   repeat (first
    | ((with_reducible apply Zg); rfl; rfl; exact (rfl : _ = Value.pointer (some ⟨_, _, _⟩)); exact Zv4 rfl hG rfl)
    | ((with_reducible apply Zd); rfl; rfl; (first
    | exact (rfl : _ = Value.int _ _)
    | exact (rfl : _ = Value.pointer (some _))))
    | ((with_reducible apply Zi); rfl; rfl; (exact (rfl : _ = Value.int _ _)); (exact (rfl : _ = Value.int _ _)); (with_reducible exact Zbv (by omega)))
    | ((with_reducible apply Z7); rfl; rfl; exact (rfl : _ = Value.pointer (some ⟨_, _, _⟩)); (exact (rfl : _ = some (Value.pointer (some _)))))
    | ((with_reducible apply Zh); rfl; rfl; exact (rfl : _ = Value.pointer (some ⟨_, _, _⟩)); (exact (rfl : _ = some 0)); (exact Nat.zero_add _))
    | ((with_reducible apply Zg); rfl; rfl; exact (rfl : _ = Value.pointer (some ⟨_, _, _⟩)); (exact (rfl : _ = some (Value.agg _))))
    | ((with_reducible apply Zj); rfl; exact (rfl : _ = Value.pointer (some ⟨_, _, _⟩)); (exact (rfl : _ = Value.agg _)); (rfl); exact (rfl : _ = _ :: _))
    | ((with_reducible apply Zq (nid := 3)); rfl; rfl; rfl; exact (rfl : _ = _ :: _))
    | with_reducible refine Za ?_
    | with_reducible refine Zf ?_
    | with_reducible refine Ze ?_
    | with_reducible refine Z1 ?_
    | with_reducible refine Zbx ?_
    | with_reducible refine Zb ?_
    | with_reducible refine Zay ?_
    | with_reducible refine Zav ?_
    | ((with_reducible apply Zr); rfl)
    | ((with_reducible apply Za2); rfl))
   refine Zby (fun x => [pt 0 0, dead, dead, dead, pt 2 0, dead, dead, pt 3 0] ++ List.replicate 33 dead ++ [.agg (Zaa w32 64 kk).toArray, Iv (x : Nat)])
    (fun t : Nat => [stB v (sl 1 0 m c) (w64 n), byB 64 b, wB (Zp3 kk v (Zj0 b 64) t).2, vB (Zp3 kk v (Zj0 b 64) t).1]) (fun t => t ≤ 64) (fun t => 64 - t) 0 (by omega) ?_ ?_
   ·refine Z2 (n := 4) rfl ?_ rfl rfl
    repeat (first | exact trivial | refine ⟨.inl rfl, ?_⟩ | refine ⟨.inr ⟨rfl, rfl⟩, ?_⟩)
   ·intro t ht
    by_cases hlt : t < 64
    ·generalize hv : (Zp3 kk v (Zj0 b 64) t).1 = vt
     generalize hw : (Zp3 kk v (Zj0 b 64) t).2 = wt
     repeat (first
      | ((with_reducible apply Zx6); rfl; rfl; (exact (rfl : _ = Value.agg _)); (exact (rfl : _ = Value.int _ _)); exact Zpd (i := t) rfl rfl (by omega) (by omega) (by omega) (fun _ => rfl))
      | ((with_reducible apply Zdq (j := t % 16)); rfl; rfl; exact (rfl : _ = Value.pointer (some ⟨_, _, _⟩)); (exact (rfl : _ = Value.int _ _)); (exact (rfl : _ = some (_, 1))); omega; omega; omega)
      | ((with_reducible apply Zdq (j := (t + 1) % 16)); rfl; rfl; exact (rfl : _ = Value.pointer (some ⟨_, _, _⟩)); (exact (rfl : _ = Value.int _ _)); (exact (rfl : _ = some (_, 1))); omega; omega; omega)
      | ((with_reducible apply Zdq (j := (t + 14) % 16)); rfl; rfl; exact (rfl : _ = Value.pointer (some ⟨_, _, _⟩)); (exact (rfl : _ = Value.int _ _)); (exact (rfl : _ = some (_, 1))); omega; omega; omega)
      | ((with_reducible apply Zdq (j := (t + 9) % 16)); rfl; rfl; exact (rfl : _ = Value.pointer (some ⟨_, _, _⟩)); (exact (rfl : _ = Value.int _ _)); (exact (rfl : _ = some (_, 1))); omega; omega; omega)
      | ((with_reducible apply Zdq (j := 0)); rfl; rfl; exact (rfl : _ = Value.pointer (some ⟨_, _, _⟩)); (exact (rfl : _ = Value.int _ _)); (exact (rfl : _ = some (_, 1))); omega; omega; omega)
      | ((with_reducible apply Zdq (j := 1)); rfl; rfl; exact (rfl : _ = Value.pointer (some ⟨_, _, _⟩)); (exact (rfl : _ = Value.int _ _)); (exact (rfl : _ = some (_, 1))); omega; omega; omega)
      | ((with_reducible apply Zdq (j := 2)); rfl; rfl; exact (rfl : _ = Value.pointer (some ⟨_, _, _⟩)); (exact (rfl : _ = Value.int _ _)); (exact (rfl : _ = some (_, 1))); omega; omega; omega)
      | ((with_reducible apply Zdq (j := 4)); rfl; rfl; exact (rfl : _ = Value.pointer (some ⟨_, _, _⟩)); (exact (rfl : _ = Value.int _ _)); (exact (rfl : _ = some (_, 1))); omega; omega; omega)
      | ((with_reducible apply Zdq (j := 5)); rfl; rfl; exact (rfl : _ = Value.pointer (some ⟨_, _, _⟩)); (exact (rfl : _ = Value.int _ _)); (exact (rfl : _ = some (_, 1))); omega; omega; omega)
      | ((with_reducible apply Zdq (j := 6)); rfl; rfl; exact (rfl : _ = Value.pointer (some ⟨_, _, _⟩)); (exact (rfl : _ = Value.int _ _)); (exact (rfl : _ = some (_, 1))); omega; omega; omega)
      | ((with_reducible apply Zdq (j := 7)); rfl; rfl; exact (rfl : _ = Value.pointer (some ⟨_, _, _⟩)); (exact (rfl : _ = Value.int _ _)); (exact (rfl : _ = some (_, 1))); omega; omega; omega)
      | ((with_reducible apply Zd); rfl; rfl; (exact (rfl : _ = Value.int _ _)))
      | ((with_reducible apply Zc); rfl; rfl; (exact (rfl : _ = Value.int _ _)))
      | ((with_reducible apply Zi); rfl; rfl; (exact (rfl : _ = Value.int _ _)); (exact (rfl : _ = Value.int _ _)); (first
      | with_reducible exact Zcv (by omega)
      | with_reducible exact Zap rfl (by omega) (by omega)
      | with_reducible exact Z4q (by first | exact ofI _ _ | rfl) (by first | exact ofI _ _ | rfl)
      | with_reducible exact Z7c (by first | exact ofI _ _ | rfl) (by first | exact ofI _ _ | rfl)
      | with_reducible exact Z2f (by omega)
      | with_reducible exact Z40 (by first | exact ofI _ _ | rfl) (by first | exact ofI _ _ | rfl)
      | with_reducible exact Z17 (by omega) (by omega)))
      | ((with_reducible apply Zci); rfl; rfl; (exact (rfl : _ = Value.pointer (some _))); rfl; rfl; (exact (rfl : _ = some (Value.slice (some ⟨_, _, _⟩) _ _))))
      | ((with_reducible apply Zwb); rfl; rfl; (exact (rfl : _ = Value.slice _ _ _)); (exact (rfl : _ = Value.slice _ _ _)); exact (rfl : _ = some (Value.int _ _, _, _)); exact (rfl : _ = _ :: _))
      | ((with_reducible apply Zg); rfl; rfl; exact (rfl : _ = Value.pointer (some ⟨_, _, _⟩)); (first
      | exact Ziw rfl rfl rfl (by omega) (fun _ => rfl)
      | exact (rfl : _ = some (Value.int _ _))))
      | ((with_reducible apply Zj); rfl; exact (rfl : _ = Value.pointer (some ⟨_, _, _⟩)); (exact (rfl : _ = Value.int _ _)); (first
      | exact Zho rfl rfl rfl rfl rfl (by omega) rfl rfl
      | rfl); exact (rfl : _ = _ :: _))
      | ((with_reducible apply Zv (Zx9 _ _)); rfl; rfl; rfl; rfl; rfl; (exact (rfl : _ = Value.int _ _)))
      | ((with_reducible apply Zv (Zmj _ 6 11 _ (by decide) (by decide))); rfl; rfl; rfl; rfl; rfl; (exact (rfl : _ = Value.int _ _)))
      | ((with_reducible apply Zv (Zmj _ 2 13 _ (by decide) (by decide))); rfl; rfl; rfl; rfl; rfl; (exact (rfl : _ = Value.int _ _)))
      | ((with_reducible apply Zv (Zmj _ 7 18 _ (by decide) (by decide))); rfl; rfl; rfl; rfl; rfl; (exact (rfl : _ = Value.int _ _)))
      | ((with_reducible apply Zv (Zmj _ 17 19 _ (by decide) (by decide))); rfl; rfl; rfl; rfl; rfl; (exact (rfl : _ = Value.int _ _)))
      | with_reducible refine Za ?_
      | with_reducible refine Zf ?_
      | with_reducible refine Ze ?_
      | with_reducible refine Z1 ?_
      | with_reducible refine Z0 ?_
      | with_reducible refine Zb ?_
      | with_reducible refine Zag ?_
      | (with_reducible refine Zca (by kernel_rfl) ?_)
      | (with_reducible refine Zc4 (by kernel_rfl) ?_)
      | ((with_reducible apply Zu); rfl))
     subst hv; subst hw
     refine Zx ⟨t + 1, by omega, by omega, ?_⟩
     refine Z2 (n := 4) rfl ?_ ?_ ?_
     repeat (first | exact trivial | refine ⟨.inl rfl, ?_⟩ | refine ⟨.inr ⟨rfl, rfl⟩, ?_⟩)
     ·rfl
     ·rfl
    ·obtain rfl : t = 64 := by omega
     generalize hv : (Zp3 kk v (Zj0 b 64) 64).1 = vt
     generalize hw : (Zp3 kk v (Zj0 b 64) 64).2 = wt
     repeat (first
      | ((with_reducible apply Zd); rfl; rfl; (exact (rfl : _ = Value.int _ _)))
      | ((with_reducible apply Zi); rfl; rfl; (exact (rfl : _ = Value.int _ _)); (exact (rfl : _ = Value.int _ _)); (with_reducible exact Zbv (by omega)))
      | ((with_reducible apply Zg); rfl; rfl; exact (rfl : _ = Value.pointer (some ⟨_, _, _⟩)); (exact (rfl : _ = some (Value.agg _))))
      | with_reducible refine Za ?_
      | with_reducible refine Zf ?_
      | with_reducible refine Ze ?_
      | with_reducible refine Z1 ?_
      | with_reducible refine Zbx ?_
      | with_reducible refine Zb ?_
      | with_reducible refine Zay ?_
      | with_reducible refine Zav ?_
      | ((with_reducible apply Zr); rfl)
      | ((with_reducible apply Za2); rfl))
     refine Zby (fun x => [pt 0 0] ++ List.replicate 138 dead ++ [.agg (Zaa w32 8 vt).toArray, Iv (x : Nat)])
      (fun x : Nat => [stB (Zr9 v vt x) (sl 1 0 m c) (w64 n), byB 64 b]) (fun x => x ≤ 8) (fun x => 8 - x) 0 (by omega) ?_ ?_
     ·refine Z2 (n := 2) rfl ?_ rfl rfl
      repeat (first | exact trivial | refine ⟨.inl rfl, ?_⟩ | refine ⟨.inr ⟨rfl, rfl⟩, ?_⟩)
     ·intro x hx
      by_cases hlt : x < 8
      repeat (first
       | ((with_reducible apply Zdq (j := x)); rfl; rfl; exact (rfl : _ = Value.pointer (some ⟨_, _, _⟩)); (exact (rfl : _ = Value.int _ _)); (exact (rfl : _ = some (_, 1))); omega; omega; omega)
       | ((with_reducible apply Zx6); rfl; rfl; (exact (rfl : _ = Value.agg _)); (exact (rfl : _ = Value.int _ _)); exact Zpd (i := x) rfl rfl (by omega) (by omega) (by omega) (fun _ => rfl))
       | ((with_reducible apply Zd); rfl; rfl; (first
       | exact (rfl : _ = Value.int _ _)
       | exact (rfl : _ = Value.pointer (some _))))
       | ((with_reducible apply Zc); rfl; rfl; (exact (rfl : _ = Value.int _ _)))
       | ((with_reducible apply Zi); rfl; rfl; (exact (rfl : _ = Value.int _ _)); (exact (rfl : _ = Value.int _ _)); (first
       | with_reducible exact Zcv (by omega)
       | with_reducible exact Zap rfl (by omega) (by omega)
       | with_reducible exact Z4q (by first | exact ofI _ _ | rfl) (by first | exact ofI _ _ | rfl)))
       | ((with_reducible apply Z7); rfl; rfl; exact (rfl : _ = Value.pointer (some ⟨_, _, _⟩)); (exact (rfl : _ = some (Value.pointer (some _)))))
       | ((with_reducible apply Zh); rfl; rfl; exact (rfl : _ = Value.pointer (some ⟨_, _, _⟩)); (exact (rfl : _ = some 0)); (exact Nat.zero_add _))
       | ((with_reducible apply Zg); rfl; rfl; exact (rfl : _ = Value.pointer (some ⟨_, _, _⟩)); (exact Zpj rfl rfl rfl (by omega) (fun _ => rfl)))
       | ((with_reducible apply Zj); rfl; exact (rfl : _ = Value.pointer (some ⟨_, _, _⟩)); (exact (rfl : _ = Value.int _ _)); (exact Zu3 rfl rfl rfl rfl rfl (by omega) rfl rfl); exact (rfl : _ = _ :: _))
       | with_reducible refine Za ?_
       | with_reducible refine Zf ?_
       | with_reducible refine Ze ?_
       | with_reducible refine Z1 ?_
       | with_reducible refine Z0 ?_
       | with_reducible refine Zb ?_
       | with_reducible refine Zag ?_
       | (with_reducible refine Zca (by kernel_rfl) ?_)
       | (with_reducible refine Zc4 (by kernel_rfl) ?_)
       | ((with_reducible apply Zu); rfl))
      refine Zx ⟨x + 1, by omega, by omega, ?_⟩
      refine Z2 (n := 2) rfl ?_ rfl rfl
      repeat (first | exact trivial | refine ⟨.inl rfl, ?_⟩ | refine ⟨.inr ⟨rfl, rfl⟩, ?_⟩)
      ·obtain rfl : x = 8 := by omega
       repeat (first
        | ((with_reducible apply Zi); rfl; rfl; (exact (rfl : _ = Value.int _ _)); (exact (rfl : _ = Value.int _ _)); (with_reducible exact Zbv (by omega)))
        | with_reducible refine Za ?_
        | with_reducible refine Zf ?_
        | with_reducible refine Ze ?_
        | with_reducible refine Zbx ?_
        | with_reducible refine Zb ?_
        | with_reducible refine Zay ?_
        | with_reducible refine Zav ?_
        | ((with_reducible apply Zr); rfl)
        | ((with_reducible apply Za2); rfl))
       refine Zll ?_
       refine Zo (v := .tuple #[]) rfl ?_ rfl ?_ ?_
       ·subst hv; rfl
       ·rfl
       ·exact trivial
end Go.Flat
end
section
namespace Go.Flat
open Go.Proofs
variable {G : Glob}
abbrev Bs := List (BitVec 8)
def bl (s : ByteArray) : Bs := s.data.toList.map UInt8.toBitVec
theorem Zio (s : ByteArray) : Zcq s = (bl s).map w8 := by
 unfold Zcq bl
 rw [List.map_map]; rfl
theorem Zes (s : ByteArray) : (bl s).length = s.size := by simp [bl]
def Zan (l : Bs) : Blk := { cells := l.map w8, sz := 1, wr := true, fix := false, mv := true, pur := true }
def Zga (l : Bs) (j : Nat) : Nat → BitVec 8 := fun i => l.getD (64 * j + i) 0
def Zk7 (kk v : Nat → BitVec 32) (l : Bs) : Nat → Nat → BitVec 32
  | 0 => v
  | j + 1 => Z2b kk (Zk7 kk v l j) (Zga l j)
theorem Z65 {l : Bs} {j : Nat} (h : 64 * j + 64 ≤ l.length) : ((l.map w8).drop (64 * j)).take 64 = Zaa w8 64 (Zga l j) := by
 apply List.ext_getElem?
 intro i
 rcases Nat.lt_or_ge i 64 with hi | hi
 ·rw [Zco hi, List.getElem?_take, if_pos hi, List.getElem?_drop, List.getElem?_map]
  have : 64 * j + i < l.length := by omega
  simp [Zga, this]
 ·rw [List.getElem?_eq_none (by simp; omega), List.getElem?_eq_none (by rw [Zbl]; omega)]

theorem Zni (s : ByteArray) : (Zcq s).all Zbh = true := by rw [Zio]; simp only [List.all_map, List.all_eq_true]; intros; rfl
theorem Zzi (l : Bs) : (l.map w8).all Zbh = true := by simp only [List.all_map, List.all_eq_true]; intros; rfl
set_option maxHeartbeats 4000000 in
theorem Z4j (kk : Nat → BitVec 32) (hG : G 0 = some (Zaa w32 64 kk)) (v : Nat → BitVec 32) (pre rest full : Bs) (s : ByteArray) (n : BitVec 64) (hf : full = rest ++ bl s) (hs : full.length ≤ 140737488355328) :
  Zac Tryd.prog G 46 [pt 0 0, .string s] [stB v (slv 1 pre.length rest.length rest.length) (w64 n), Zan (pre ++ rest)] (.tuple #[])
   [stB (Zk7 kk v full (full.length / 64)) (slv 1 (64 * (full.length / 64)) (full.length - 64 * (full.length / 64)) (full.length - 64 * (full.length / 64))) (w64 (n + BitVec.ofInt 64 s.size)), Zan full] := by
 have hlen : full.length = rest.length + s.size := by rw [hf]; simp [Zes]
 refine Zb8 (fn := Tryd.f46) (nt := 44) rfl rfl rfl rfl ?_
 have hcat : (((pre ++ rest).map w8).drop pre.length).take (rest.length * 1) ++ Zcq s = full.map w8 := by
  rw [Nat.mul_one, List.map_append, List.drop_append_of_le_length (by simp), Zio, hf, List.map_append]
  have : List.drop pre.length (List.map w8 pre) = [] := by simp
  rw [this, List.nil_append, List.take_of_length_le (by simp)]
 repeat (first
  | ((with_reducible apply Za5); rfl; rfl; rfl; exact .inr rfl; exact (rfl : _ = Value.slice (some ⟨_, _, _⟩) _ _); exact (rfl : _ = Value.string _); exact Zcy (n' := full.length) (rfl : _ = some (1, _, 1)) rfl rfl rfl rfl rfl (Zni s) (by simp [Zan]) (by decide) hlen.symm (by omega); rfl; exact (rfl : _ = _ :: _))
  | ((with_reducible apply Zd); rfl; rfl; (first
  | exact (rfl : _ = Value.pointer (some _))
  | exact (rfl : _ = Value.string _)))
  | ((with_reducible apply Zi); rfl; rfl; (exact (rfl : _ = Value.int _ _)); (exact (rfl : _ = Value.int _ _)); (with_reducible exact Z4r (by first | exact ofI _ _ | rfl) (by first | exact ofI _ _ | rfl)))
  | ((with_reducible apply Zcc); rfl; rfl; (exact (rfl : _ = Value.int _ _)); (exact Zms rfl rfl (by first | exact Ze2 _ | rfl)))
  | ((with_reducible apply Z7); rfl; rfl; exact (rfl : _ = Value.pointer (some ⟨_, _, _⟩)); (exact (rfl : _ = some (Value.pointer (some _)))))
  | ((with_reducible apply Zh); rfl; rfl; exact (rfl : _ = Value.pointer (some ⟨_, _, _⟩)); (first
  | exact (rfl : _ = some 8)
  | exact (rfl : _ = some 9)); (exact Nat.zero_add _))
  | ((with_reducible apply Zg); rfl; rfl; exact (rfl : _ = Value.pointer (some ⟨_, _, _⟩)); (first
  | exact (rfl : _ = some (Value.int _ _))
  | exact (rfl : _ = some (Value.slice _ _ _))))
  | ((with_reducible apply Za6); rfl; rfl; (exact (rfl : _ = Value.string _)); (exact (rfl : _ = some (Value.int _ _))))
  | ((with_reducible apply Zj); rfl; exact (rfl : _ = Value.pointer (some ⟨_, _, _⟩)); (first
  | exact (rfl : _ = Value.int _ _)
  | exact (rfl : _ = Value.slice _ _ _)); (rfl); exact (rfl : _ = _ :: _))
  | with_reducible refine Za ?_
  | with_reducible refine Zf ?_
  | with_reducible refine Ze ?_
  | with_reducible refine Z1 ?_
  | with_reducible refine Zb ?_)
 refine Zby (fun x => [pt 0 0])
  (fun j : Nat => [stB (Zk7 kk v full j) (slv 1 (64 * j) (full.length - 64 * j) (full.length - 64 * j)) (w64 (n + BitVec.ofInt 64 s.size)), Zan full]) (fun j => 64 * j ≤ full.length) (fun j => full.length - 64 * j) 0 (by omega) ?_ ?_
 ·refine Z2 (n := 2) rfl ?_ ?_ rfl
  repeat (first | exact trivial | refine ⟨.inl rfl, ?_⟩ | refine ⟨.inr ⟨rfl, rfl⟩, ?_⟩)
  ·exact congrArg (fun c => [stB v (slv 1 0 full.length full.length) (w64 (n + BitVec.ofInt 64 s.size)), ({ cells := c, sz := 1, wr := true, fix := false, mv := true, pur := true } : Blk)]) hcat
 ·intro j hj
  by_cases hlt : 64 * j + 64 ≤ full.length
  repeat (first
   | ((with_reducible apply Zci); rfl; rfl; exact (rfl : _ = Value.slice (some ⟨_, _, _⟩) _ _); rfl; rfl; first | exact Zgt (h := 64) rfl rfl rfl (by omega) rfl | exact Zhn (l := 64) (sz := 1) (j := 64 * (j + 1)) (m := full.length - 64 * (j + 1)) (c' := full.length - 64 * (j + 1)) rfl rfl rfl rfl (by omega) (by omega) rfl (by omega) (by omega) (by omega))
   | ((with_reducible apply Zab (e := [some (0, 0), some (1, 64 * j)]) (nid := 0) (Z2c kk hG (Zk7 kk v full j) (Zga full j) (full.length - 64 * j) (full.length - 64 * j) 64 (n + BitVec.ofInt 64 s.size))); rfl; rfl; rfl; rfl; rfl; rfl; rfl; exact ⟨⟨⟨rfl, rfl⟩, ⟨rfl, rfl, rfl, by omega, by omega⟩, trivial⟩, ⟨Zal rfl rfl rfl rfl, Zbu rfl rfl (by (show 64 * j + (Zaa w8 64 _).length ≤ (List.map w8 full).length; rw [Zbl, List.length_map]; exact hlt)) (Z65 hlt), trivial⟩, rfl, rfl, rfl⟩; exact (rfl : _ = Value.tuple _); exact (rfl : _ = _ :: _))
   | ((with_reducible apply Zd); rfl; rfl; (exact (rfl : _ = Value.pointer (some _))))
   | ((with_reducible apply Zi); rfl; rfl; (exact (rfl : _ = Value.int _ _)); (exact (rfl : _ = Value.int _ _)); (with_reducible exact Zit (by omega)))
   | ((with_reducible apply Z7); rfl; rfl; exact (rfl : _ = Value.pointer (some ⟨_, _, _⟩)); (exact (rfl : _ = some (Value.pointer (some _)))))
   | ((with_reducible apply Zh); rfl; rfl; exact (rfl : _ = Value.pointer (some ⟨_, _, _⟩)); (exact (rfl : _ = some 8)); (exact Nat.zero_add _))
   | ((with_reducible apply Zg); rfl; rfl; exact (rfl : _ = Value.pointer (some ⟨_, _, _⟩)); (exact (rfl : _ = some (Value.slice _ _ _))))
   | ((with_reducible apply Za6); rfl; rfl; (exact (rfl : _ = Value.slice _ _ _)); (exact (rfl : _ = some (Value.int _ _))))
   | ((with_reducible apply Zj); rfl; exact (rfl : _ = Value.pointer (some ⟨_, _, _⟩)); (exact (rfl : _ = Value.slice _ _ _)); (rfl); exact (rfl : _ = _ :: _))
   | with_reducible refine Za ?_
   | with_reducible refine Zf ?_
   | with_reducible refine Ze ?_
   | with_reducible refine Z1 ?_
   | with_reducible refine Z0 ?_
   | with_reducible refine Zb ?_
   | with_reducible refine Zag ?_
   | ((with_reducible apply Zu); rfl))
  refine Zx ⟨j + 1, by omega, by omega, ?_⟩
  refine Z2 (n := 2) rfl ?_ ?_ rfl
  repeat (first | exact trivial | refine ⟨.inl rfl, ?_⟩ | refine ⟨.inr ⟨rfl, rfl⟩, ?_⟩)
  ·rfl
  ·have hj2 : j = full.length / 64 := by omega
   subst hj2
   repeat (first
    | ((with_reducible apply Zd); rfl; rfl; (exact (rfl : _ = Value.pointer (some _))))
    | ((with_reducible apply Zi); rfl; rfl; (exact (rfl : _ = Value.int _ _)); (exact (rfl : _ = Value.int _ _)); (with_reducible exact Zis (by omega)))
    | ((with_reducible apply Z7); rfl; rfl; exact (rfl : _ = Value.pointer (some ⟨_, _, _⟩)); (exact (rfl : _ = some (Value.pointer (some _)))))
    | ((with_reducible apply Zh); rfl; rfl; exact (rfl : _ = Value.pointer (some ⟨_, _, _⟩)); (exact (rfl : _ = some 8)); (exact Nat.zero_add _))
    | ((with_reducible apply Zg); rfl; rfl; exact (rfl : _ = Value.pointer (some ⟨_, _, _⟩)); (exact (rfl : _ = some (Value.slice _ _ _))))
    | ((with_reducible apply Za6); rfl; rfl; (exact (rfl : _ = Value.slice _ _ _)); (exact (rfl : _ = some (Value.int _ _))))
    | with_reducible refine Za ?_
    | with_reducible refine Zf ?_
    | with_reducible refine Ze ?_
    | with_reducible refine Zbx ?_
    | with_reducible refine Zb ?_
    | with_reducible refine Zay ?_
    | with_reducible refine Zav ?_
    | ((with_reducible apply Zr); rfl)
    | ((with_reducible apply Za2); rfl))
   refine Zll ?_
   refine Zo (v := .tuple #[]) rfl ?_ rfl ?_ ?_
   ·rfl
   ·rfl
   ·exact trivial
end Go.Flat
end
section
namespace Go.Flat
open Go.Proofs
variable {G : Glob}
def Zs1 : Nat → BitVec 32
  | 0 => 0x6a09e667 | 1 => 0xbb67ae85 | 2 => 0x3c6ef372 | 3 => 0xa54ff53a | 4 => 0x510e527f | 5 => 0x9b05688c | 6 => 0x1f83d9ab | _ => 0x5be0cd19
abbrev nilS : Value := .slice none 0 0
def Z4g (v : Nat → BitVec 32) (r n : Value) : List Value := Zaa w32 8 v ++ [r, n]
theorem Z0s : Zac Tryd.prog G 45 [] [] (.agg (Z4g Zs1 nilS (w64 0)).toArray) [] := by
 refine Zb8 (fn := Tryd.f45) (nt := 3) rfl rfl rfl rfl ?_
 refine Zah 1 (H' := [hole]) rfl ?_
 repeat (first
  | ((with_reducible apply Zbf); rfl; rfl; rfl; exact (rfl : _ = some (Value.agg _)))
  | ((with_reducible apply Zj); rfl; exact (rfl : _ = Value.pointer (some ⟨_, _, _⟩)); (exact (rfl : _ = Value.agg _)); (rfl); exact (rfl : _ = _ :: _))
  | ((with_reducible apply Zq (nid := 0)); rfl; rfl; rfl; exact (rfl : _ = _ :: _))
  | with_reducible refine Za ?_
  | with_reducible refine Zf ?_
  | with_reducible refine Ze ?_
  | with_reducible refine Zw ?_
  | with_reducible refine Zb ?_)
 refine Zy ?_
 refine Zdx (v := .agg _) rfl rfl ?_
 rfl
def tl (M : Bs) : Bs := M.drop (64 * (M.length / 64))
def Zlo (kk : Nat → BitVec 32) (M : Bs) : Nat → BitVec 32 := Zk7 kk Zs1 M (M.length / 64)
def Zfy (M : Bs) (s : ByteArray) : Bs := (tl M ++ bl s).take (64 * ((tl M ++ bl s).length / 64))
def stM (kk : Nat → BitVec 32) (M pre : Bs) (r : Nat) : Blk := stB (Zlo kk M) (slv r pre.length (tl M).length (tl M).length) (w64 (BitVec.ofNat 64 M.length))
theorem Zww (M : Bs) : (tl M).length = M.length - 64 * (M.length / 64) := by simp [tl]
theorem Zyq (M N : Bs) (j : Nat) : Zga (tl M ++ N) j = Zga (M ++ N) (M.length / 64 + j) := by
 have hk : 64 * (M.length / 64) ≤ M.length := by omega
 have : tl M ++ N = (M ++ N).drop (64 * (M.length / 64)) := by unfold tl; rw [List.drop_append_of_le_length hk]
 funext i
 unfold Zga
 rw [this]
 simp only [List.getD_eq_getElem?_getD, List.getElem?_drop]
 congr 2
 omega
theorem Ztb (kk : Nat → BitVec 32) (M N : Bs) : ∀ j, Zk7 kk (Zlo kk M) (tl M ++ N) j = Zk7 kk Zs1 (M ++ N) (M.length / 64 + j)
 | 0 => by
  simp only [Zk7, Nat.add_zero]
  unfold Zlo
  have : ∀ k, 64 * k ≤ M.length → Zk7 kk Zs1 M k = Zk7 kk Zs1 (M ++ N) k := by
   intro k
   induction k with
   | zero => intros; rfl
   | succ k ih =>
    intro h
    simp only [Zk7]
    rw [ih (by omega)]
    have hb : ∀ i, i < 64 → Zga M k i = Zga (M ++ N) k i := by
     intro i hi
     unfold Zga
     simp only [List.getD_eq_getElem?_getD]
     rw [List.getElem?_append_left (by omega)]
    have hin : ∀ t, t ≤ 64 → Zj0 (Zga M k) t = Zj0 (Zga (M ++ N) k) t := by
     intro t
     induction t with
     | zero => intros; rfl
     | succ t ih2 => intro ht; simp only [Zj0]; rw [ih2 (by omega), hb t (by omega)]
    unfold Z2b
    rw [hin 64 (by omega)]
  exact this _ (by omega)
 | j + 1 => by
  have e : M.length / 64 + (j + 1) = (M.length / 64 + j) + 1 := by omega
  rw [e]
  simp only [Zk7]
  rw [Ztb kk M N j, Zyq]
theorem Zu7 (kk : Nat → BitVec 32) (hG : G 0 = some (Zaa w32 64 kk)) (M pre : Bs) (s : ByteArray) (hs : (tl M).length + s.size ≤ 140737488355328) :
  Zac Tryd.prog G 46 [pt 0 0, .string s] [stM kk M pre 1, Zan (pre ++ tl M)] (.tuple #[]) [stM kk (M ++ bl s) (Zfy M s) 1, Zan (Zfy M s ++ tl (M ++ bl s))] := by
 have h := Z4j (G := G) kk hG (Zlo kk M) pre (tl M) (tl M ++ bl s) s (BitVec.ofNat 64 M.length) rfl (by simp [Zes]; omega)
 have hk : 64 * (M.length / 64) ≤ M.length := by omega
 have hl : (tl M ++ bl s).length = M.length - 64 * (M.length / 64) + s.size := by simp [Zww, Zes]
 have hL : (M ++ bl s).length = M.length + s.size := by simp [Zes]
 have hq : (M ++ bl s).length / 64 = M.length / 64 + (tl M ++ bl s).length / 64 := by rw [hl, hL]; omega
 have hd : tl (M ++ bl s) = (tl M ++ bl s).drop (64 * ((tl M ++ bl s).length / 64)) := by
  have e1 : tl M ++ bl s = (M ++ bl s).drop (64 * (M.length / 64)) := by unfold tl; rw [List.drop_append_of_le_length hk]
  rw [e1, List.drop_drop, ← e1]
  unfold tl
  congr 1
  rw [hq]; unfold tl; omega
 have hp : (Zfy M s).length = 64 * ((tl M ++ bl s).length / 64) := by unfold Zfy; rw [List.length_take]; omega
 have e1 : Zk7 kk (Zlo kk M) (tl M ++ bl s) ((tl M ++ bl s).length / 64) = Zlo kk (M ++ bl s) := by rw [Ztb]; unfold Zlo; rw [hq]
 have e2 : Zfy M s ++ tl (M ++ bl s) = tl M ++ bl s := by rw [hd]; exact List.take_append_drop _ _
 have e3 : (tl (M ++ bl s)).length = (tl M ++ bl s).length - 64 * ((tl M ++ bl s).length / 64) := by rw [hd, List.length_drop]
 have e4 : BitVec.ofNat 64 M.length + BitVec.ofInt 64 s.size = BitVec.ofNat 64 (M ++ bl s).length := by rw [hL, BitVec.ofInt_natCast, BitVec.ofNat_add]
 rw [e1, e4, ← e3, ← hp, ← e2] at h
 exact h
end Go.Flat
end
section
namespace Go.Flat
open Go.Proofs
variable {G : Glob}
def Za8 (ps : List ByteArray) : Blk := { cells := ps.map Value.string, sz := 1, wr := false, fix := false, mv := true, pur := true }
def dgB (d : Nat → BitVec 8) : Blk := { cells := Zaa w8 32 d, sz := 32, wr := true, fix := true, mv := false, pur := true }
def Zbn (ps : List ByteArray) : Bs := (ps.map bl).flatten
def Z0t (n : BitVec 64) (i : Nat) : BitVec 8 := (n >>> (56 - 8 * (i : Int)).toNat).setWidth 8
def pad0 (r : Nat) : Bs := (128 : BitVec 8) :: List.replicate ((119 - r) % 64) 0
def Z11 (r : Nat) (n : BitVec 64) : Nat → Bs
  | 0 => pad0 r
  | i + 1 => Z11 r n i ++ [Z0t n i]
def Z4b (v : Nat → BitVec 32) (i : Nat) : BitVec 8 := (v (i / 4) >>> (24 - (i : Int) % 4 * 8).toNat).setWidth 8
def Znp (v : Nat → BitVec 32) : Nat → Nat → BitVec 8
  | 0 => fun _ => 0
  | i + 1 => Ze9 (Znp v i) i (Z4b v i)
def Z3w (M : Bs) : BitVec 64 := BitVec.ofNat 64 M.length * BitVec.ofInt 64 8
def Zeu (M : Bs) (i : Nat) : Bs := Z11 (tl M).length (Z3w M) i
def Zbb (kk : Nat → BitVec 32) (M : Bs) : Nat → BitVec 8 := Znp (Zlo kk (M ++ Zeu M 8)) 32
theorem Zue (r : Nat) (n : BitVec 64) : ∀ i, (Z11 r n i).length = 1 + (119 - r) % 64 + i
 | 0 => by simp [Z11, pad0]; omega
 | i + 1 => by simp [Z11, Zue r n i]; omega
def Zs (l : Bs) : ByteArray := ⟨(l.map UInt8.ofBitVec).toArray⟩
theorem Zin (l : Bs) : bl (Zs l) = l := by
 unfold bl Zs
 simp only [List.map_map]
 have : (UInt8.toBitVec ∘ UInt8.ofBitVec) = (id : BitVec 8 → BitVec 8) := rfl
 rw [this, List.map_id]
theorem Za3 (l : Bs) : (Zs l).size = l.length := by rw [← Zes, Zin]

set_option maxHeartbeats 4000000 in
theorem Zs8 (kk : Nat → BitVec 32) (hG : G 0 = some (Zaa w32 64 kk)) (ps : List ByteArray) (c : Nat) (hn : ps.length ≤ 1000000) (hs : ∀ s, s ∈ ps → s.size ≤ 70368744177664) :
  Zac Tryd.prog G 18 [slv 0 0 ps.length c] [Za8 ps] (.agg (Zaa w8 32 (Zbb kk (Zbn ps))).toArray) [Za8 ps] := by
 refine Zb8 (fn := Tryd.f18) (nt := 67) rfl rfl rfl rfl ?_
 refine Zah 6 (H' := [Za8 ps, hole, hole, hole, hole, hole, hole]) rfl ?_
 repeat (first
  | ((with_reducible apply Zd); rfl; rfl; (first
  | exact (rfl : _ = Value.int _ _)
  | exact (rfl : _ = Value.slice _ _ _)))
  | ((with_reducible apply Za6); rfl; rfl; (exact (rfl : _ = Value.slice _ _ _)); (exact (rfl : _ = some (Value.int _ _))))
  | ((with_reducible apply Zj); rfl; exact (rfl : _ = Value.pointer (some ⟨_, _, _⟩)); (exact (rfl : _ = Value.agg _)); (rfl); exact (rfl : _ = _ :: _))
  | ((with_reducible apply Zq (nid := 1)); rfl; rfl; rfl; exact (rfl : _ = _ :: _))
  | ((with_reducible apply Zq (nid := 2)); rfl; rfl; rfl; exact (rfl : _ = _ :: _))
  | ((with_reducible apply Zv (Z0s)); rfl; rfl; rfl; rfl; rfl; (exact (rfl : _ = Value.agg _)))
  | with_reducible refine Za ?_
  | with_reducible refine Zf ?_
  | with_reducible refine Ze ?_
  | with_reducible refine Z1 ?_
  | with_reducible refine Zb ?_)
 refine Zc8 (Zb2.nilCell (k := 2) (j := 8) (b := 3) true 1 rfl (by decide) rfl (by show 0 < 10; decide) rfl rfl) ?_
 refine Zby (fun x : Nat × Bs => [dead, dead, pt 1 0, pt 2 0] ++ List.replicate 8 dead ++ [slv 0 0 ps.length c, Iv ps.length, Iv (x.1 : Nat)])
  (fun x => [Za8 ps, dgB (fun _ => 0), stM kk (Zbn (ps.take x.1)) x.2 3, Zan (x.2 ++ tl (Zbn (ps.take x.1))), hole, hole, hole]) (fun x => x.1 ≤ ps.length) (fun x => ps.length - x.1) (0, []) (by simp) ?_ ?_
 ·refine Z2 (n := 7) rfl ?_ ?_ rfl
  repeat (first | exact trivial | refine ⟨.inl rfl, ?_⟩ | refine ⟨.inr ⟨rfl, rfl⟩, ?_⟩)
  ·show _ = [Za8 ps, dgB (fun _ => 0), stM kk (Zbn (ps.take 0)) [] 3, Zan ([] ++ tl (Zbn (ps.take 0))), hole, hole, hole]
   rw [show Zbn (ps.take 0) = [] from by simp [Zbn]]
   rfl
 ·rintro ⟨i, pre⟩ hi
  dsimp only at hi ⊢
  by_cases hlt : i < ps.length
  ·have hM : Zbn (ps.take (i + 1)) = Zbn (ps.take i) ++ bl ps[i] := by
    unfold Zbn
    rw [List.take_add_one, List.map_append, List.flatten_append]
    simp [hlt]
   have hsz : (tl (Zbn (ps.take i))).length + (ps[i]).size ≤ 140737488355328 := by
    have := hs ps[i] (List.getElem_mem hlt)
    rw [Zww]; omega
   have hget : (Za8 ps).cells[i]? = some (Value.string ps[i]) := by simp [Za8, hlt]
   generalize hMi : Zbn (ps.take i) = M at hM hsz
   repeat (first
    | ((with_reducible apply Zg); rfl; rfl; exact (rfl : _ = Value.pointer (some ⟨_, _, _⟩)); exact Ziv rfl rfl hget rfl)
    | ((with_reducible apply Zev (e := [some (2, 0), some (3, 0)]) (nid := 0) (Zu7 kk hG M pre ps[i] hsz)); rfl; rfl; rfl; rfl; rfl; rfl; refine ⟨⟨⟨rfl, rfl⟩, rfl, trivial⟩, ⟨Zal rfl rfl rfl (congrArg (fun q => Zaa w32 8 (Zlo kk M) ++ [slv 3 q (tl M).length (tl M).length, w64 (BitVec.ofNat 64 M.length)]) (Nat.zero_add _).symm), Zal rfl rfl rfl rfl, trivial⟩, rfl, rfl, rfl, Nat.le_refl _⟩; exact (rfl : _ = Value.tuple _); rfl; exact (rfl : _ = _ :: _))
    | ((with_reducible apply Zbe (j := i)); rfl; rfl; exact (rfl : _ = Value.slice (some ⟨_, _, _⟩) _ _); (exact (rfl : _ = Value.int _ _)); (exact (rfl : _ = some (_, 1))); omega; omega; omega)
    | ((with_reducible apply Zd); rfl; rfl; (first
    | exact (rfl : _ = Value.int _ _)
    | exact (rfl : _ = Value.string _)))
    | ((with_reducible apply Zc); rfl; rfl; (exact (rfl : _ = Value.string _)))
    | ((with_reducible apply Zi); rfl; rfl; (exact (rfl : _ = Value.int _ _)); (exact (rfl : _ = Value.int _ _)); (first
    | with_reducible exact Zcv (by omega)
    | with_reducible exact Zap rfl (by omega) (by omega)))
    | with_reducible refine Za ?_
    | with_reducible refine Zf ?_
    | with_reducible refine Ze ?_
    | with_reducible refine Z1 ?_
    | with_reducible refine Z0 ?_
    | with_reducible refine Zb ?_
    | with_reducible refine Zag ?_
    | ((with_reducible apply Zu); rfl))
   refine Zx ⟨(i + 1, Zfy M ps[i]), by show i + 1 ≤ _; omega, by show _ - (i + 1) < _; omega, ?_⟩
   refine Z2 (n := 7) rfl ?_ ?_ rfl
   repeat (first | exact trivial | refine ⟨.inl rfl, ?_⟩ | refine ⟨.inr ⟨rfl, rfl⟩, ?_⟩)
   ·show _ = [Za8 ps, dgB (fun _ => 0), stM kk (Zbn (ps.take (i + 1))) (Zfy M ps[i]) 3, Zan (Zfy M ps[i] ++ tl (Zbn (ps.take (i + 1)))), hole, hole, hole]
    rw [hM]
    exact congrArg (fun q => [Za8 ps, dgB (fun _ => 0), stB (Zlo kk (M ++ bl ps[i])) (slv 3 q (tl (M ++ bl ps[i])).length (tl (M ++ bl ps[i])).length) (w64 (BitVec.ofNat 64 (M ++ bl ps[i]).length)), Zan (Zfy M ps[i] ++ tl (M ++ bl ps[i])), hole, hole, hole]) (Nat.zero_add _)
  ·obtain rfl : i = ps.length := by omega
   rw [List.take_length]
   have htl : (tl (Zbn ps)).length < 64 := by rw [Zww]; omega
   generalize hMi : Zbn ps = M at htl
   have hp : ∀ i, (Zeu M i).length = 1 + (119 - (tl M).length) % 64 + i := fun i => Zue _ _ i
   repeat (first
    | ((with_reducible apply Zwc (nid := 4)); rfl; rfl; exact (rfl : _ = Value.int _ _); exact (rfl : _ = Value.int _ _); exact Zpm (n := (119 - (tl M).length) % 64 + 1) (c := 128) (rfl : _ = some (1, _, 1)) (by omega) rfl (by omega) (by decide) (by decide) rfl; exact (rfl : _ = _ :: _))
    | ((with_reducible apply Zj); rfl; exact (rfl : _ = Value.pointer (some ⟨4, _, _⟩)); exact (rfl : _ = Value.int _ _); exact Zlj rfl rfl rfl (Z37 _ _) (by simp) rfl rfl; exact (rfl : _ = _ :: _))
    | ((with_reducible apply Zbe (j := 0)); rfl; rfl; exact (rfl : _ = Value.slice (some ⟨_, _, _⟩) _ _); (exact (rfl : _ = Value.int _ _)); (exact (rfl : _ = some (_, 1))); omega; omega; omega)
    | ((with_reducible apply Zd); rfl; rfl; (first
    | exact (rfl : _ = Value.int _ _)
    | exact (rfl : _ = Value.slice _ _ _)))
    | ((with_reducible apply Zc); rfl; rfl; (first
    | exact (rfl : _ = Value.int _ _)
    | exact (rfl : _ = Value.slice _ _ _)))
    | ((with_reducible apply Zi); rfl; rfl; (exact (rfl : _ = Value.int _ _)); (exact (rfl : _ = Value.int _ _)); (first
    | with_reducible exact Zbv (by omega)
    | with_reducible exact Zap rfl (by omega) (by omega)
    | with_reducible exact Zb5 rfl (by omega) (by omega)
    | with_reducible exact Z4u (by first | exact ofI _ _ | rfl) (by first | exact ofI _ _ | rfl)
    | with_reducible exact Z17 (by omega) (by omega)))
    | ((with_reducible apply Zh); rfl; rfl; exact (rfl : _ = Value.pointer (some ⟨_, _, _⟩)); (first
    | exact (rfl : _ = some 8)
    | exact (rfl : _ = some 9)); (exact Nat.zero_add _))
    | ((with_reducible apply Zg); rfl; rfl; exact (rfl : _ = Value.pointer (some ⟨_, _, _⟩)); (first
    | exact (rfl : _ = some (Value.int _ _))
    | exact (rfl : _ = some (Value.slice _ _ _))))
    | ((with_reducible apply Za6); rfl; rfl; (exact (rfl : _ = Value.slice _ _ _)); (exact (rfl : _ = some (Value.int _ _))))
    | with_reducible refine Za ?_
    | with_reducible refine Zf ?_
    | with_reducible refine Ze ?_
    | with_reducible refine Z1 ?_
    | with_reducible refine Zbx ?_
    | with_reducible refine Zb ?_
    | with_reducible refine Zay ?_
    | with_reducible refine Zav ?_
    | ((with_reducible apply Zr); rfl)
    | ((with_reducible apply Za2); rfl))
   refine Zby (fun x : Nat × Nat => [dead, dead, pt 1 0, pt 2 0, dead, dead, w64 (Z3w M), slv 4 0 (Zeu M x.1).length x.2] ++ List.replicate 25 dead ++ [Iv (x.1 : Nat)])
    (fun x => [Za8 ps, dgB (fun _ => 0), stM kk M pre 3, Zan (pre ++ tl M), Zan (Zeu M x.1)]) (fun x => x.1 ≤ 8) (fun x => 8 - x.1) (0, 128) (by show 0 ≤ 8; decide) ?_ ?_
   ·refine Z2 (n := 5) rfl ?_ ?_ rfl
    ·rw [show (Zeu M (0, 128).1).length = (119 - (tl M).length) % 64 + 1 from by rw [hp]; omega]
     repeat (first | exact trivial | refine ⟨.inl rfl, ?_⟩ | refine ⟨.inr ⟨rfl, rfl⟩, ?_⟩)
    ·exact congrArg (fun q => [Za8 ps, dgB (fun _ => 0), stM kk M pre 3, Zan (pre ++ tl M), ({ cells := w8 128 :: q, sz := 1, wr := true, fix := false, mv := true, pur := true } : Blk)]) (show List.replicate ((119 - (tl M).length) % 64) (w8 0) = List.map w8 (List.replicate ((119 - (tl M).length) % 64) 0) from by rw [List.map_replicate])
   ·rintro ⟨i, cap⟩ hi8
    dsimp only at hi8 ⊢
    by_cases hl8 : i < 8
    ·have hpi := hp i
     have hpi1 := hp (i + 1)
     refine Zah 1 (H' := [Za8 ps, dgB (fun _ => 0), stM kk M pre 3, Zan (pre ++ tl M), Zan (Zeu M i), hole]) rfl ?_
     repeat (first
      | ((with_reducible apply Zdd (nid := 5)); rfl; rfl; rfl; exact (rfl : _ = some (Value.slice _ _ _, _)); exact (rfl : _ = _ :: _))
      | ((with_reducible apply Za5); rfl; rfl; rfl; exact .inl ⟨_, rfl⟩; exact (rfl : _ = Value.slice (some ⟨_, _, _⟩) _ _); exact (rfl : _ = Value.slice (some ⟨_, _, _⟩) _ _); exact Zcy (n' := (Zeu M (i + 1)).length) (rfl : _ = some (1, _, 1)) (rfl : _ = some (1, _)) rfl rfl rfl rfl rfl (by simp [Zan]) (by decide) (by omega) (by omega); rfl; exact (rfl : _ = _ :: _))
      | ((with_reducible apply Zd); rfl; rfl; (first
      | exact (rfl : _ = Value.int _ _)
      | exact (rfl : _ = Value.slice _ _ _)))
      | ((with_reducible apply Zc); rfl; rfl; (first
      | exact (rfl : _ = Value.int _ _)
      | exact (rfl : _ = Value.slice _ _ _)))
      | ((with_reducible apply Zi); rfl; rfl; (exact (rfl : _ = Value.int _ _)); (exact (rfl : _ = Value.int _ _)); (first
      | with_reducible exact Zcv (by omega)
      | with_reducible exact Zap rfl (by omega) (by omega)
      | with_reducible exact Zb5 rfl (by omega) (by omega)
      | with_reducible exact Zxg rfl (by omega) (by omega)
      | with_reducible exact Zk4 (by omega)))
      | ((with_reducible apply Zcc); rfl; rfl; (exact (rfl : _ = Value.int _ _)); (exact Zgn rfl rfl (by first | exact Ze2 _ | rfl)))
      | with_reducible refine Za ?_
      | with_reducible refine Zf ?_
      | with_reducible refine Ze ?_
      | with_reducible refine Z1 ?_
      | with_reducible refine Z0 ?_
      | with_reducible refine Zb ?_
      | with_reducible refine Zag ?_
      | ((with_reducible apply Zu); rfl))
     refine Zx ⟨(i + 1, (Zeu M (i + 1)).length), by show i + 1 ≤ 8; omega, by show 8 - (i + 1) < 8 - i; omega, ?_⟩
     refine Z2 (n := 5) rfl ?_ ?_ rfl
     repeat (first | exact trivial | refine ⟨.inl rfl, ?_⟩ | refine ⟨.inr ⟨rfl, rfl⟩, ?_⟩)
     ·have hq : List.take ((Zeu M i).length * 1) (List.drop 0 ((Zeu M i).map w8)) ++ [w8 (Z0t (Z3w M) i)] = (Zeu M (i + 1)).map w8 := by
       rw [Nat.mul_one, List.drop_zero, List.take_of_length_le (by simp)]
       show _ = List.map w8 (Zeu M i ++ [Z0t (Z3w M) i])
       rw [List.map_append]; rfl
      exact congrArg (fun q => [Za8 ps, dgB (fun _ => 0), stM kk M pre 3, Zan (pre ++ tl M), ({ cells := q, sz := 1, wr := true, fix := false, mv := true, pur := true } : Blk)]) hq
    ·obtain rfl : i = 8 := by omega
     have hp8 := hp 8
     refine Zah 1 (H' := [Za8 ps, dgB (fun _ => 0), stM kk M pre 3, Zan (pre ++ tl M), Zan (Zeu M 8), hole]) rfl ?_
     have hS : bl (Zs (Zeu M 8)) = Zeu M 8 := Zin _
     have hsz : (tl M).length + (Zs (Zeu M 8)).size ≤ 140737488355328 := by rw [Za3]; omega
     repeat (first
      | ((with_reducible apply Zgy); rfl; rfl; exact (rfl : _ = Value.slice (some ⟨_, _, _⟩) _ _); exact Zec (l := Zeu M 8) rfl rfl rfl rfl (by simp [Zan]) (by show List.take (Zeu M 8).length (List.drop 0 ((Zeu M 8).map w8)) = _; rw [List.drop_zero, List.take_of_length_le (by simp)]))
      | ((with_reducible apply Zev (e := [some (2, 0), some (3, 0)]) (nid := 0) (Zu7 kk hG M pre (Zs (Zeu M 8)) hsz)); rfl; rfl; rfl; rfl; rfl; rfl; refine ⟨⟨⟨rfl, rfl⟩, rfl, trivial⟩, ⟨Zal rfl rfl rfl (congrArg (fun q => Zaa w32 8 (Zlo kk M) ++ [slv 3 q (tl M).length (tl M).length, w64 (BitVec.ofNat 64 M.length)]) (Nat.zero_add _).symm), Zal rfl rfl rfl rfl, trivial⟩, rfl, rfl, rfl, Nat.le_refl _⟩; exact (rfl : _ = Value.tuple _); rfl; exact (rfl : _ = _ :: _))
      | ((with_reducible apply Zd); rfl; rfl; (first
      | exact (rfl : _ = Value.int _ _)
      | exact (rfl : _ = Value.slice _ _ _)))
      | ((with_reducible apply Zi); rfl; rfl; (exact (rfl : _ = Value.int _ _)); (exact (rfl : _ = Value.int _ _)); (with_reducible exact Zbv (by omega)))
      | ((with_reducible apply Zq (nid := 5)); rfl; rfl; rfl; exact (rfl : _ = _ :: _))
      | with_reducible refine Za ?_
      | with_reducible refine Zf ?_
      | with_reducible refine Ze ?_
      | with_reducible refine Z1 ?_
      | with_reducible refine Zbx ?_
      | with_reducible refine Zb ?_
      | with_reducible refine Zay ?_
      | with_reducible refine Zav ?_
      | ((with_reducible apply Zr); rfl)
      | ((with_reducible apply Za2); rfl))
     generalize hV : Zlo kk (M ++ bl (Zs (Zeu M 8))) = V
     refine Zby (fun x : Nat => [dead, dead, pt 1 0, pt 2 0, dead, dead, dead, dead, dead, pt 5 0] ++ List.replicate 39 dead ++ [Iv (x : Nat)])
      (fun x : Nat => [Za8 ps, dgB (fun _ => 0), stB V (slv 3 (0 + (Zfy M (Zs (Zeu M 8))).length) (tl (M ++ bl (Zs (Zeu M 8)))).length (tl (M ++ bl (Zs (Zeu M 8)))).length) (w64 (BitVec.ofNat 64 (M ++ bl (Zs (Zeu M 8))).length)), Zan (Zfy M (Zs (Zeu M 8)) ++ tl (M ++ bl (Zs (Zeu M 8)))), Zan (Zeu M 8), dgB (Znp V x)]) (fun x => x ≤ 32) (fun x => 32 - x) 0 (by omega) ?_ ?_
     ·subst hV
      refine Z2 (n := 6) rfl ?_ rfl rfl
      repeat (first | exact trivial | refine ⟨.inl rfl, ?_⟩ | refine ⟨.inr ⟨rfl, rfl⟩, ?_⟩)
     ·intro x hx
      by_cases hl : x < 32
      repeat (first
       | ((with_reducible apply Zdq (j := x / 4)); rfl; rfl; exact (rfl : _ = Value.pointer (some ⟨_, _, _⟩)); (exact (rfl : _ = Value.int _ _)); (exact (rfl : _ = some (_, 1))); omega; omega; omega)
       | ((with_reducible apply Zdq (j := x)); rfl; rfl; exact (rfl : _ = Value.pointer (some ⟨_, _, _⟩)); (exact (rfl : _ = Value.int _ _)); (exact (rfl : _ = some (_, 1))); omega; omega; omega)
       | ((with_reducible apply Zd); rfl; rfl; (exact (rfl : _ = Value.int _ _)))
       | ((with_reducible apply Zc); rfl; rfl; (exact (rfl : _ = Value.int _ _)))
       | ((with_reducible apply Zi); rfl; rfl; (exact (rfl : _ = Value.int _ _)); (exact (rfl : _ = Value.int _ _)); (first
       | with_reducible exact Zcv (by omega)
       | with_reducible exact Zap rfl (by omega) (by omega)
       | with_reducible exact Zb5 rfl (by omega) (by omega)
       | with_reducible exact Zxg rfl (by omega) (by omega)
       | with_reducible exact Z2f (by omega)
       | with_reducible exact Z4v (by omega) (by omega) (by omega)
       | with_reducible exact Z17 (by omega) (by omega)))
       | ((with_reducible apply Zcc); rfl; rfl; (exact (rfl : _ = Value.int _ _)); (exact Zgn rfl rfl (by first | exact Ze2 _ | rfl)))
       | ((with_reducible apply Zh); rfl; rfl; exact (rfl : _ = Value.pointer (some ⟨_, _, _⟩)); (exact (rfl : _ = some 0)); (exact Nat.zero_add _))
       | ((with_reducible apply Zg); rfl; rfl; exact (rfl : _ = Value.pointer (some ⟨_, _, _⟩)); (exact Zpj rfl rfl rfl (by omega) (fun _ => rfl)))
       | ((with_reducible apply Zj); rfl; exact (rfl : _ = Value.pointer (some ⟨_, _, _⟩)); (exact (rfl : _ = Value.int _ _)); (exact Zho rfl rfl rfl rfl rfl (by omega) rfl rfl); exact (rfl : _ = _ :: _))
       | with_reducible refine Za ?_
       | with_reducible refine Zf ?_
       | with_reducible refine Ze ?_
       | with_reducible refine Z1 ?_
       | with_reducible refine Z0 ?_
       | with_reducible refine Zb ?_
       | with_reducible refine Zag ?_
       | ((with_reducible apply Zu); rfl))
      refine Zx ⟨x + 1, by omega, by omega, ?_⟩
      refine Z2 (n := 6) rfl ?_ rfl rfl
      repeat (first | exact trivial | refine ⟨.inl rfl, ?_⟩ | refine ⟨.inr ⟨rfl, rfl⟩, ?_⟩)
      ·obtain rfl : x = 32 := by omega
       repeat (first
        | ((with_reducible apply Zi); rfl; rfl; (exact (rfl : _ = Value.int _ _)); (exact (rfl : _ = Value.int _ _)); (with_reducible exact Zbv (by omega)))
        | ((with_reducible apply Zg); rfl; rfl; exact (rfl : _ = Value.pointer (some ⟨_, _, _⟩)); (exact (rfl : _ = some (Value.agg _))))
        | ((with_reducible apply Zj); rfl; exact (rfl : _ = Value.pointer (some ⟨_, _, _⟩)); (exact (rfl : _ = Value.agg _)); (rfl); exact (rfl : _ = _ :: _))
        | with_reducible refine Za ?_
        | with_reducible refine Zf ?_
        | with_reducible refine Ze ?_
        | with_reducible refine Zbx ?_
        | with_reducible refine Zw ?_
        | with_reducible refine Zb ?_
        | with_reducible refine Zay ?_
        | with_reducible refine Zav ?_
        | ((with_reducible apply Zr); rfl)
        | ((with_reducible apply Za2); rfl))
       refine Zy ?_
       refine Zo (v := .agg (Zaa w8 32 (Znp V 32)).toArray) rfl rfl rfl rfl ?_
       subst hMi
       rw [hS] at hV
       subst hV
       exact Za7 (Zaz fun _ => rfl) rfl
end Go.Flat
end
section
namespace Go.Flat
open Go.Proofs
variable {G : Glob}
abbrev dgV (d : Nat → BitVec 8) : Value := .agg (Zaa w8 32 d).toArray
def dgL (d : Nat → BitVec 8) : Bs := (List.range 32).map d
theorem Zxs (d : Nat → BitVec 8) : Zaa w8 32 d = (dgL d).map w8 := by simp [Zaa, dgL]
theorem Zei (d : Nat → BitVec 8) : (dgL d).length = 32 := by simp [dgL]
def Zql : ByteArray := ⟨#[1]⟩
def Zba (kk : Nat → BitVec 32) (a b : Nat → BitVec 8) : Nat → BitVec 8 := Zbb kk (Zbn [Zql, Zs (dgL a), Zs (dgL b)])
theorem Zlm (kk : Nat → BitVec 32) (hG : G 0 = some (Zaa w32 64 kk)) : Zac Tryd.prog G 17 [] [] (dgV (Zbb kk [])) [] := by
 refine Zb8 (fn := Tryd.f17) (nt := 2) rfl rfl rfl rfl ?_
 refine Zah 1 (H' := [hole]) rfl ?_
 repeat (first
  | ((with_reducible apply Zab (e := [none]) (nid := 0) (Zs8 kk hG [] 0 (by decide) (by simp))); rfl; rfl; rfl; rfl; rfl; rfl; rfl; refine ⟨⟨⟨rfl, rfl, rfl, rfl⟩, trivial⟩, ⟨⟨rfl, rfl, by show 0 < 1; decide⟩, trivial⟩, rfl, rfl, rfl⟩; exact (rfl : _ = Value.agg _); exact (rfl : _ = _ :: _))
  | ((with_reducible apply Zj); rfl; exact (rfl : _ = Value.pointer (some ⟨_, _, _⟩)); (exact (rfl : _ = Value.agg _)); (rfl); exact (rfl : _ = _ :: _))
  | ((with_reducible apply Zq (nid := 0)); rfl; rfl; rfl; exact (rfl : _ = _ :: _))
  | with_reducible refine Za ?_
  | with_reducible refine Zf ?_
  | with_reducible refine Ze ?_
  | with_reducible refine Zw ?_
  | with_reducible refine Zb ?_)
 refine Zy ?_
 refine Zdx (v := dgV (Zbb kk [])) ?_ (Zaz fun _ => rfl) rfl
 rfl
theorem Zhs (kk : Nat → BitVec 32) (hG : G 0 = some (Zaa w32 64 kk)) (a b : Nat → BitVec 8) : Zac Tryd.prog G 23 [dgV a, dgV b] [] (dgV (Zba kk a b)) [] := by
 refine Zb8 (fn := Tryd.f23) (nt := 11) rfl rfl rfl rfl ?_
 refine Zah 4 (H' := [hole, hole, hole, hole]) rfl ?_
 have h32 : ∀ d : Nat → BitVec 8, (Zs (dgL d)).size = 32 := fun d => by rw [Za3, Zei]
 have hsz : ∀ s, s ∈ [Zql, Zs (dgL a), Zs (dgL b)] → s.size ≤ 70368744177664 := by
  intro s hs
  simp only [List.mem_cons, List.not_mem_nil, or_false] at hs
  rcases hs with rfl | rfl | rfl
  ·show 1 ≤ 70368744177664; omega
  ·rw [h32]; omega
  ·rw [h32]; omega
 repeat (first
  | ((with_reducible apply Zgy); rfl; rfl; exact (rfl : _ = Value.slice (some ⟨_, _, _⟩) _ _); first | exact Zec (l := dgL a) rfl rfl rfl rfl (by show 0 + 32 ≤ 32; decide) rfl | exact Zec (l := dgL b) rfl rfl rfl rfl (by show 0 + 32 ≤ 32; decide) rfl)
  | ((with_reducible apply Zdd (nid := 3)); rfl; rfl; rfl; exact (rfl : _ = some (Value.slice _ _ _, _)); exact (rfl : _ = _ :: _))
  | ((with_reducible apply Zab (e := [some (3, 0)]) (nid := 0) (Zs8 kk hG [Zql, Zs (dgL a), Zs (dgL b)] 3 (by simp) hsz)); rfl; rfl; rfl; rfl; rfl; rfl; rfl; refine ⟨⟨⟨rfl, rfl, rfl, Nat.le_refl _, Nat.le_refl _⟩, trivial⟩, ⟨Zbu rfl rfl (by show 0 + 3 ≤ 3; decide) rfl, trivial⟩, rfl, rfl, rfl⟩; exact (rfl : _ = Value.agg _); exact (rfl : _ = _ :: _))
  | ((with_reducible apply Zci); rfl; rfl; (exact (rfl : _ = Value.pointer (some _))); rfl; rfl; (exact (rfl : _ = some (Value.slice (some ⟨_, _, _⟩) _ _))))
  | ((with_reducible apply Zj); rfl; exact (rfl : _ = Value.pointer (some ⟨_, _, _⟩)); (exact (rfl : _ = Value.agg _)); (rfl); exact (rfl : _ = _ :: _))
  | ((with_reducible apply Zdc (nid := 0)); rfl; rfl; (exact (rfl : _ = Value.agg _)); rfl; exact (rfl : _ = _ :: _))
  | ((with_reducible apply Zdc (nid := 1)); rfl; rfl; (exact (rfl : _ = Value.agg _)); rfl; exact (rfl : _ = _ :: _))
  | ((with_reducible apply Zq (nid := 2)); rfl; rfl; rfl; exact (rfl : _ = _ :: _))
  | with_reducible refine Za ?_
  | with_reducible refine Zf ?_
  | with_reducible refine Ze ?_
  | with_reducible refine Zw ?_
  | with_reducible refine Zb ?_
  | (with_reducible refine Zca (by kernel_rfl) ?_)
  | (with_reducible refine Zc4 (by kernel_rfl) ?_))
 refine Zy ?_
 refine Zdx (v := dgV (Zba kk a b)) ?_ (Zaz fun _ => rfl) rfl
 rfl
end Go.Flat
end
section
namespace Go.Flat
open Go.Proofs
variable {G : Glob}
set_option maxHeartbeats 4000000 in
theorem Z0f (x : BitVec 64) : Zac Tryd.prog G 68 [w64 x] [] (Iv (Zaw x.toNat)) [] := by
 refine Zb8 (fn := Tryd.f68) (nt := 25) rfl rfl rfl rfl ?_
 have hx := x.isLt
 have last : ∀ (y : BitVec 64), y.toNat < 256 → (y.setWidth 8).toNat = y.toNat := fun y hy => by rw [BitVec.toNat_setWidth]; omega
 have key : ∀ (y : BitVec 64), y.toNat < 256 → ((y.setWidth 8).toNat < 256 ∧ Zaw (y.setWidth 8).toNat ≤ 8) := fun y hy => ⟨(y.setWidth 8).isLt, Zqy (by have := (y.setWidth 8).isLt; omega)⟩
 by_cases h32 : (4294967296 : Int) ≤ (x.toNat : Int)
 by_cases h16 : (65536 : Int) ≤ ((x >>> Int.toNat 32).toNat : Int)
 by_cases h8 : (256 : Int) ≤ (((x >>> Int.toNat 32) >>> Int.toNat 16).toNat : Int)
 have e32 : (x >>> Int.toNat 32).toNat = x.toNat / 4294967296 := by rw [Ze6]; rfl
 have b32 : Zaw x.toNat = 32 + Zaw (x.toNat / 4294967296) := Zb9 (k := 32) (by omega)
 have e16 : ((x >>> Int.toNat 32) >>> Int.toNat 16).toNat = (x >>> Int.toNat 32).toNat / 65536 := by rw [Ze6]; rfl
 have b16 : Zaw (x >>> Int.toNat 32).toNat = 16 + Zaw ((x >>> Int.toNat 32).toNat / 65536) := Zb9 (k := 16) (by omega)
 have e8 : (((x >>> Int.toNat 32) >>> Int.toNat 16) >>> Int.toNat 8).toNat = ((x >>> Int.toNat 32) >>> Int.toNat 16).toNat / 256 := by rw [Ze6]; rfl
 have b8 : Zaw ((x >>> Int.toNat 32) >>> Int.toNat 16).toNat = 8 + Zaw (((x >>> Int.toNat 32) >>> Int.toNat 16).toNat / 256) := Zb9 (k := 8) (by omega)
 have hlast : (((x >>> Int.toNat 32) >>> Int.toNat 16) >>> Int.toNat 8).toNat < 256 := by omega
 obtain ⟨k1, k2⟩ := key (((x >>> Int.toNat 32) >>> Int.toNat 16) >>> Int.toNat 8) hlast
 have k3 := last (((x >>> Int.toNat 32) >>> Int.toNat 16) >>> Int.toNat 8) hlast
 repeat (first
  | ((with_reducible apply Zfz); rfl; rfl; exact (rfl : _ = Value.string _); exact (rfl : _ = Value.int _ _); exact Zey rfl rfl (by omega) (by kernel_rfl))
  | ((with_reducible apply Zd); rfl; rfl; (exact (rfl : _ = Value.int _ _)))
  | ((with_reducible apply Zc); rfl; rfl; (exact (rfl : _ = Value.int _ _)))
  | ((with_reducible apply Zi); rfl; rfl; (exact (rfl : _ = Value.int _ _)); (exact (rfl : _ = Value.int _ _)); (first
  | with_reducible exact Zit (by omega)
  | with_reducible exact Zap rfl (by omega) (by omega)
  | with_reducible exact Zk4 (by omega)))
  | ((with_reducible apply Zcc); rfl; rfl; (exact (rfl : _ = Value.int _ _)); (first
  | exact Zgn rfl rfl (by first | exact Ze2 _ | rfl)
  | exact Zhx rfl rfl (by omega) (by omega)))
  | with_reducible refine Za ?_
  | with_reducible refine Zf ?_
  | with_reducible refine Ze ?_
  | with_reducible refine Zw ?_
  | with_reducible refine Zb ?_
  | ((with_reducible apply Zu); rfl))
 refine Zy ?_
 refine Zdx (v := Iv _) rfl rfl ?_
 rw [k3]
 rw [b32, ← e32, b16, ← e16, b8, ← e8]
 congr 1 <;> omega
 have e32 : (x >>> Int.toNat 32).toNat = x.toNat / 4294967296 := by rw [Ze6]; rfl
 have b32 : Zaw x.toNat = 32 + Zaw (x.toNat / 4294967296) := Zb9 (k := 32) (by omega)
 have e16 : ((x >>> Int.toNat 32) >>> Int.toNat 16).toNat = (x >>> Int.toNat 32).toNat / 65536 := by rw [Ze6]; rfl
 have b16 : Zaw (x >>> Int.toNat 32).toNat = 16 + Zaw ((x >>> Int.toNat 32).toNat / 65536) := Zb9 (k := 16) (by omega)
 have hlast : ((x >>> Int.toNat 32) >>> Int.toNat 16).toNat < 256 := by omega
 obtain ⟨k1, k2⟩ := key ((x >>> Int.toNat 32) >>> Int.toNat 16) hlast
 have k3 := last ((x >>> Int.toNat 32) >>> Int.toNat 16) hlast
 repeat (first
  | ((with_reducible apply Zfz); rfl; rfl; exact (rfl : _ = Value.string _); exact (rfl : _ = Value.int _ _); exact Zey rfl rfl (by omega) (by kernel_rfl))
  | ((with_reducible apply Zd); rfl; rfl; (exact (rfl : _ = Value.int _ _)))
  | ((with_reducible apply Zc); rfl; rfl; (exact (rfl : _ = Value.int _ _)))
  | ((with_reducible apply Zi); rfl; rfl; (exact (rfl : _ = Value.int _ _)); (exact (rfl : _ = Value.int _ _)); (first
  | with_reducible exact Zit (by omega)
  | with_reducible exact Zis (by omega)
  | with_reducible exact Zap rfl (by omega) (by omega)
  | with_reducible exact Zk4 (by omega)))
  | ((with_reducible apply Zcc); rfl; rfl; (exact (rfl : _ = Value.int _ _)); (first
  | exact Zgn rfl rfl (by first | exact Ze2 _ | rfl)
  | exact Zhx rfl rfl (by omega) (by omega)))
  | with_reducible refine Za ?_
  | with_reducible refine Zf ?_
  | with_reducible refine Ze ?_
  | with_reducible refine Z0 ?_
  | with_reducible refine Zw ?_
  | with_reducible refine Zb ?_
  | ((with_reducible apply Zu); rfl)
  | ((with_reducible apply Zr); rfl))
 refine Zy ?_
 refine Zdx (v := Iv _) rfl rfl ?_
 rw [k3]
 rw [b32, ← e32, b16, ← e16]
 congr 1 <;> omega
 by_cases h8 : (256 : Int) ≤ ((x >>> Int.toNat 32).toNat : Int)
 have e32 : (x >>> Int.toNat 32).toNat = x.toNat / 4294967296 := by rw [Ze6]; rfl
 have b32 : Zaw x.toNat = 32 + Zaw (x.toNat / 4294967296) := Zb9 (k := 32) (by omega)
 have e8 : ((x >>> Int.toNat 32) >>> Int.toNat 8).toNat = (x >>> Int.toNat 32).toNat / 256 := by rw [Ze6]; rfl
 have b8 : Zaw (x >>> Int.toNat 32).toNat = 8 + Zaw ((x >>> Int.toNat 32).toNat / 256) := Zb9 (k := 8) (by omega)
 have hlast : ((x >>> Int.toNat 32) >>> Int.toNat 8).toNat < 256 := by omega
 obtain ⟨k1, k2⟩ := key ((x >>> Int.toNat 32) >>> Int.toNat 8) hlast
 have k3 := last ((x >>> Int.toNat 32) >>> Int.toNat 8) hlast
 repeat (first
  | ((with_reducible apply Zfz); rfl; rfl; exact (rfl : _ = Value.string _); exact (rfl : _ = Value.int _ _); exact Zey rfl rfl (by omega) (by kernel_rfl))
  | ((with_reducible apply Zd); rfl; rfl; (exact (rfl : _ = Value.int _ _)))
  | ((with_reducible apply Zc); rfl; rfl; (exact (rfl : _ = Value.int _ _)))
  | ((with_reducible apply Zi); rfl; rfl; (exact (rfl : _ = Value.int _ _)); (exact (rfl : _ = Value.int _ _)); (first
  | with_reducible exact Zit (by omega)
  | with_reducible exact Zis (by omega)
  | with_reducible exact Zap rfl (by omega) (by omega)
  | with_reducible exact Zk4 (by omega)))
  | ((with_reducible apply Zcc); rfl; rfl; (exact (rfl : _ = Value.int _ _)); (first
  | exact Zgn rfl rfl (by first | exact Ze2 _ | rfl)
  | exact Zhx rfl rfl (by omega) (by omega)))
  | with_reducible refine Za ?_
  | with_reducible refine Zf ?_
  | with_reducible refine Ze ?_
  | with_reducible refine Z0 ?_
  | with_reducible refine Zw ?_
  | with_reducible refine Zb ?_
  | ((with_reducible apply Zu); rfl)
  | ((with_reducible apply Zr); rfl))
 refine Zy ?_
 refine Zdx (v := Iv _) rfl rfl ?_
 rw [k3]
 rw [b32, ← e32, b8, ← e8]
 congr 1 <;> omega
 have e32 : (x >>> Int.toNat 32).toNat = x.toNat / 4294967296 := by rw [Ze6]; rfl
 have b32 : Zaw x.toNat = 32 + Zaw (x.toNat / 4294967296) := Zb9 (k := 32) (by omega)
 have hlast : (x >>> Int.toNat 32).toNat < 256 := by omega
 obtain ⟨k1, k2⟩ := key (x >>> Int.toNat 32) hlast
 have k3 := last (x >>> Int.toNat 32) hlast
 repeat (first
  | ((with_reducible apply Zfz); rfl; rfl; exact (rfl : _ = Value.string _); exact (rfl : _ = Value.int _ _); exact Zey rfl rfl (by omega) (by kernel_rfl))
  | ((with_reducible apply Zd); rfl; rfl; (exact (rfl : _ = Value.int _ _)))
  | ((with_reducible apply Zc); rfl; rfl; (exact (rfl : _ = Value.int _ _)))
  | ((with_reducible apply Zi); rfl; rfl; (exact (rfl : _ = Value.int _ _)); (exact (rfl : _ = Value.int _ _)); (first
  | with_reducible exact Zit (by omega)
  | with_reducible exact Zis (by omega)
  | with_reducible exact Zap rfl (by omega) (by omega)
  | with_reducible exact Zk4 (by omega)))
  | ((with_reducible apply Zcc); rfl; rfl; (exact (rfl : _ = Value.int _ _)); (first
  | exact Zgn rfl rfl (by first | exact Ze2 _ | rfl)
  | exact Zhx rfl rfl (by omega) (by omega)))
  | with_reducible refine Za ?_
  | with_reducible refine Zf ?_
  | with_reducible refine Ze ?_
  | with_reducible refine Z0 ?_
  | with_reducible refine Zw ?_
  | with_reducible refine Zb ?_
  | ((with_reducible apply Zu); rfl)
  | ((with_reducible apply Zr); rfl))
 refine Zy ?_
 refine Zdx (v := Iv _) rfl rfl ?_
 rw [k3]
 rw [b32, ← e32]
 congr 1 <;> omega
 by_cases h16 : (65536 : Int) ≤ (x.toNat : Int)
 by_cases h8 : (256 : Int) ≤ ((x >>> Int.toNat 16).toNat : Int)
 have e16 : (x >>> Int.toNat 16).toNat = x.toNat / 65536 := by rw [Ze6]; rfl
 have b16 : Zaw x.toNat = 16 + Zaw (x.toNat / 65536) := Zb9 (k := 16) (by omega)
 have e8 : ((x >>> Int.toNat 16) >>> Int.toNat 8).toNat = (x >>> Int.toNat 16).toNat / 256 := by rw [Ze6]; rfl
 have b8 : Zaw (x >>> Int.toNat 16).toNat = 8 + Zaw ((x >>> Int.toNat 16).toNat / 256) := Zb9 (k := 8) (by omega)
 have hlast : ((x >>> Int.toNat 16) >>> Int.toNat 8).toNat < 256 := by omega
 obtain ⟨k1, k2⟩ := key ((x >>> Int.toNat 16) >>> Int.toNat 8) hlast
 have k3 := last ((x >>> Int.toNat 16) >>> Int.toNat 8) hlast
 repeat (first
  | ((with_reducible apply Zfz); rfl; rfl; exact (rfl : _ = Value.string _); exact (rfl : _ = Value.int _ _); exact Zey rfl rfl (by omega) (by kernel_rfl))
  | ((with_reducible apply Zd); rfl; rfl; (exact (rfl : _ = Value.int _ _)))
  | ((with_reducible apply Zc); rfl; rfl; (exact (rfl : _ = Value.int _ _)))
  | ((with_reducible apply Zi); rfl; rfl; (exact (rfl : _ = Value.int _ _)); (exact (rfl : _ = Value.int _ _)); (first
  | with_reducible exact Zit (by omega)
  | with_reducible exact Zis (by omega)
  | with_reducible exact Zap rfl (by omega) (by omega)
  | with_reducible exact Zk4 (by omega)))
  | ((with_reducible apply Zcc); rfl; rfl; (exact (rfl : _ = Value.int _ _)); (first
  | exact Zgn rfl rfl (by first | exact Ze2 _ | rfl)
  | exact Zhx rfl rfl (by omega) (by omega)))
  | with_reducible refine Za ?_
  | with_reducible refine Zf ?_
  | with_reducible refine Ze ?_
  | with_reducible refine Z0 ?_
  | with_reducible refine Zw ?_
  | with_reducible refine Zb ?_
  | ((with_reducible apply Zu); rfl)
  | ((with_reducible apply Zr); rfl))
 refine Zy ?_
 refine Zdx (v := Iv _) rfl rfl ?_
 rw [k3]
 rw [b16, ← e16, b8, ← e8]
 congr 1 <;> omega
 have e16 : (x >>> Int.toNat 16).toNat = x.toNat / 65536 := by rw [Ze6]; rfl
 have b16 : Zaw x.toNat = 16 + Zaw (x.toNat / 65536) := Zb9 (k := 16) (by omega)
 have hlast : (x >>> Int.toNat 16).toNat < 256 := by omega
 obtain ⟨k1, k2⟩ := key (x >>> Int.toNat 16) hlast
 have k3 := last (x >>> Int.toNat 16) hlast
 repeat (first
  | ((with_reducible apply Zfz); rfl; rfl; exact (rfl : _ = Value.string _); exact (rfl : _ = Value.int _ _); exact Zey rfl rfl (by omega) (by kernel_rfl))
  | ((with_reducible apply Zd); rfl; rfl; (exact (rfl : _ = Value.int _ _)))
  | ((with_reducible apply Zc); rfl; rfl; (exact (rfl : _ = Value.int _ _)))
  | ((with_reducible apply Zi); rfl; rfl; (exact (rfl : _ = Value.int _ _)); (exact (rfl : _ = Value.int _ _)); (first
  | with_reducible exact Zit (by omega)
  | with_reducible exact Zis (by omega)
  | with_reducible exact Zap rfl (by omega) (by omega)
  | with_reducible exact Zk4 (by omega)))
  | ((with_reducible apply Zcc); rfl; rfl; (exact (rfl : _ = Value.int _ _)); (first
  | exact Zgn rfl rfl (by first | exact Ze2 _ | rfl)
  | exact Zhx rfl rfl (by omega) (by omega)))
  | with_reducible refine Za ?_
  | with_reducible refine Zf ?_
  | with_reducible refine Ze ?_
  | with_reducible refine Z0 ?_
  | with_reducible refine Zw ?_
  | with_reducible refine Zb ?_
  | ((with_reducible apply Zu); rfl)
  | ((with_reducible apply Zr); rfl))
 refine Zy ?_
 refine Zdx (v := Iv _) rfl rfl ?_
 rw [k3]
 rw [b16, ← e16]
 congr 1 <;> omega
 by_cases h8 : (256 : Int) ≤ (x.toNat : Int)
 have e8 : (x >>> Int.toNat 8).toNat = x.toNat / 256 := by rw [Ze6]; rfl
 have b8 : Zaw x.toNat = 8 + Zaw (x.toNat / 256) := Zb9 (k := 8) (by omega)
 have hlast : (x >>> Int.toNat 8).toNat < 256 := by omega
 obtain ⟨k1, k2⟩ := key (x >>> Int.toNat 8) hlast
 have k3 := last (x >>> Int.toNat 8) hlast
 repeat (first
  | ((with_reducible apply Zfz); rfl; rfl; exact (rfl : _ = Value.string _); exact (rfl : _ = Value.int _ _); exact Zey rfl rfl (by omega) (by kernel_rfl))
  | ((with_reducible apply Zd); rfl; rfl; (exact (rfl : _ = Value.int _ _)))
  | ((with_reducible apply Zc); rfl; rfl; (exact (rfl : _ = Value.int _ _)))
  | ((with_reducible apply Zi); rfl; rfl; (exact (rfl : _ = Value.int _ _)); (exact (rfl : _ = Value.int _ _)); (first
  | with_reducible exact Zit (by omega)
  | with_reducible exact Zis (by omega)
  | with_reducible exact Zap rfl (by omega) (by omega)
  | with_reducible exact Zk4 (by omega)))
  | ((with_reducible apply Zcc); rfl; rfl; (exact (rfl : _ = Value.int _ _)); (first
  | exact Zgn rfl rfl (by first | exact Ze2 _ | rfl)
  | exact Zhx rfl rfl (by omega) (by omega)))
  | with_reducible refine Za ?_
  | with_reducible refine Zf ?_
  | with_reducible refine Ze ?_
  | with_reducible refine Z0 ?_
  | with_reducible refine Zw ?_
  | with_reducible refine Zb ?_
  | ((with_reducible apply Zu); rfl)
  | ((with_reducible apply Zr); rfl))
 refine Zy ?_
 refine Zdx (v := Iv _) rfl rfl ?_
 rw [k3]
 rw [b8, ← e8]
 congr 1 <;> omega
 have hlast : x.toNat < 256 := by omega
 obtain ⟨k1, k2⟩ := key x hlast
 have k3 := last x hlast
 repeat (first
  | ((with_reducible apply Zfz); rfl; rfl; exact (rfl : _ = Value.string _); exact (rfl : _ = Value.int _ _); exact Zey rfl rfl (by omega) (by kernel_rfl))
  | ((with_reducible apply Zd); rfl; rfl; (exact (rfl : _ = Value.int _ _)))
  | ((with_reducible apply Zc); rfl; rfl; (exact (rfl : _ = Value.int _ _)))
  | ((with_reducible apply Zi); rfl; rfl; (exact (rfl : _ = Value.int _ _)); (exact (rfl : _ = Value.int _ _)); (first
  | with_reducible exact Zis (by omega)
  | with_reducible exact Zap rfl (by omega) (by omega)))
  | ((with_reducible apply Zcc); rfl; rfl; (exact (rfl : _ = Value.int _ _)); (first
  | exact Zgn rfl rfl (by first | exact Ze2 _ | rfl)
  | exact Zhx rfl rfl (by omega) (by omega)))
  | with_reducible refine Za ?_
  | with_reducible refine Zf ?_
  | with_reducible refine Ze ?_
  | with_reducible refine Z0 ?_
  | with_reducible refine Zw ?_
  | with_reducible refine Zb ?_
  | ((with_reducible apply Zr); rfl))
 refine Zy ?_
 refine Zdx (v := Iv _) rfl rfl ?_
 rw [k3]
 congr 1 <;> omega
end Go.Flat
end
section
namespace Go.Flat
open Go.Proofs
variable {G : Glob}
theorem Z44 (x : BitVec 64) : Zac Tryd.prog G 57 [w64 x] [] (Iv (Zaw x.toNat)) [] := by
 refine Zb8 (fn := Tryd.f57) (nt := 8) rfl rfl rfl rfl ?_
 refine Ze (Zf (Zc rfl rfl (Iv 0) rfl (Za (Zb (Ze (Zr rfl (Z0 (Zb (Ze (Zf (Zd rfl rfl (w64 x) rfl ?_)))))))))))
 refine Zv (Z0f (G := G) x) (vals := [w64 x]) (res' := Iv (((Zaw x.toNat) : Nat) : Int)) rfl rfl rfl rfl rfl rfl ?_
 refine Zc rfl rfl (Iv (((Zaw x.toNat) : Nat) : Int)) rfl (Za (Zb (Zw (Zy ?_))))
 exact Zdx (v := Iv (((Zaw x.toNat) : Nat) : Int)) rfl rfl rfl
def Zct (n : Int) : Int := if n < 2 then 0 else 2 ^ (Zaw (n - 1).toNat - 1)
theorem Zil (n : Int) (h : n ≤ 9223372036854775807) : Zac Tryd.prog G 37 [Iv n] [] (Iv (Zct n)) [] := by
 refine Zb8 (fn := Tryd.f37) (nt := 11) rfl rfl rfl rfl ?_
 refine Ze (Zf (Zc rfl rfl (Iv 0) rfl (Za (Zb (Ze (Ze (Zf (Zd rfl rfl (Iv n) rfl ?_))))))))
 by_cases h1 : n < 2
 refine Zi (vx := Iv n) (vy := Iv 2) rfl rfl (.bool true) rfl rfl (Zcv (by omega)) ?_
 refine Za (Zb (Zu rfl (Ze (Zf (Zc rfl rfl (Iv 0) rfl (Za (Zb (Zw (Zaj (Zy ?_))))))))))
 rw [show Zct n = 0 from if_pos h1]
 exact Zdx (v := Iv 0) rfl rfl rfl
 have hof : (BitVec.ofInt 64 (n - 1)).toNat = (n - 1).toNat := by rw [BitVec.toNat_ofInt]; omega
 have hb : Zaw (n - 1).toNat ≤ 63 := Zqy (by omega)
 have hb1 : 1 ≤ Zaw (n - 1).toNat := by unfold Zaw; rw [if_neg (by omega)]; omega
 have hs : Zct n = 2 ^ ((((Zaw (BitVec.ofInt 64 (n - 1)).toNat) : Nat) : Int) - 1).toNat := by rw [Zct, if_neg h1, hof]; congr 1; omega
 rw [← hof] at hb hb1
 refine Zi (vx := Iv n) (vy := Iv 2) rfl rfl (.bool false) rfl rfl (Zbv (by omega)) ?_
 refine Za (Zb (Zr rfl (Z0 (Zb (Ze (Zf (Zd rfl rfl (Iv n) rfl ?_)))))))
 refine Zi (vx := Iv n) (vy := Iv 1) rfl rfl (Iv (n - 1)) rfl rfl (Zb5 (by omega) (by omega) (by omega)) ?_
 refine Zcc (w := Iv (n - 1)) (v := w64 (BitVec.ofInt 64 (n - 1))) rfl rfl rfl (Zms rfl rfl rfl) ?_
 refine Zv (Z44 (G := G) (BitVec.ofInt 64 (n - 1))) (vals := [w64 (BitVec.ofInt 64 (n - 1))]) (res' := Iv (((Zaw (BitVec.ofInt 64 (n - 1)).toNat) : Nat) : Int)) rfl rfl rfl rfl rfl rfl ?_
 refine Zi (vx := Iv (((Zaw (BitVec.ofInt 64 (n - 1)).toNat) : Nat) : Int)) (vy := Iv 1) rfl rfl (Iv ((((Zaw (BitVec.ofInt 64 (n - 1)).toNat) : Nat) : Int) - 1)) rfl rfl (Zb5 (by omega) (by omega) (by omega)) ?_
 refine Zi (vx := Iv 1) (vy := Iv ((((Zaw (BitVec.ofInt 64 (n - 1)).toNat) : Nat) : Int) - 1)) rfl rfl (Iv (Zct n)) rfl rfl (hs ▸ Z4e (by omega) (by omega)) ?_
 refine Zc rfl rfl (Iv (Zct n)) rfl (Za (Zb (Zw (Zy ?_))))
 exact Zdx (v := Iv (Zct n)) rfl rfl rfl
end Go.Flat
end
section
namespace Go.Flat
open Go.Proofs
variable {G : Glob}
theorem Z24 (hG : G 2 = some (Zaa u8N 64 dbF)) (n : Nat) (h0 : 0 < n) (h1 : n < 18446744073709551616) : Zac Tryd.prog G 63 [w64 (BitVec.ofNat 64 n)] [] (Iv (tz n)) [] := by
 refine Zb8 (fn := Tryd.f63) (nt := 14) rfl rfl rfl rfl ?_
 generalize hx : BitVec.ofNat 64 n = x
 have hx0 : x.toNat = n := by rw [← hx, BitVec.toNat_ofNat]; omega
 have e : (((x &&& -x) * BitVec.ofInt 64 285870213051353865) >>> Int.toNat 58).toNat = ((x &&& -x) * BitVec.ofInt 64 285870213051353865).toNat / 288230376151711744 := by rw [Ze6]; rfl
 have hl := ((x &&& -x) * BitVec.ofInt 64 285870213051353865).isLt
 have hb := Z6i (((x &&& -x) * BitVec.ofInt 64 285870213051353865) >>> Int.toNat 58).toNat
 repeat (first
  | ((with_reducible apply Zhl); rfl; rfl; exact (rfl : _ = Value.int _ _); exact Z2p (ofI _ _))
  | ((with_reducible apply Zg); rfl; rfl; exact (rfl : _ = Value.pointer (some ⟨_, _, _⟩)); exact Zqk rfl hG (by omega) (fun _ => rfl))
  | ((with_reducible apply Zdq (j := (((x &&& -x) * BitVec.ofInt 64 285870213051353865) >>> Int.toNat 58).toNat)); rfl; rfl; exact (rfl : _ = Value.pointer (some ⟨_, _, _⟩)); (exact (rfl : _ = Value.int _ _)); (exact (rfl : _ = some (_, 1))); omega; omega; omega)
  | ((with_reducible apply Zd); rfl; rfl; (exact (rfl : _ = Value.int _ _)))
  | ((with_reducible apply Zc); rfl; rfl; (exact (rfl : _ = Value.int _ _)))
  | ((with_reducible apply Zi); rfl; rfl; (exact (rfl : _ = Value.int _ _)); (exact (rfl : _ = Value.int _ _)); (first
  | with_reducible exact Zfc (by omega)
  | with_reducible exact Z4u (by first | exact ofI _ _ | rfl) (by first | exact ofI _ _ | rfl)
  | with_reducible exact Z0n (by first | exact ofI _ _ | rfl) (by first | exact ofI _ _ | rfl)
  | with_reducible exact Zk4 (by omega)))
  | ((with_reducible apply Zcc); rfl; rfl; (exact (rfl : _ = Value.int _ _)); (exact Zhx rfl rfl (by omega) (by omega)))
  | with_reducible refine Za ?_
  | with_reducible refine Zf ?_
  | with_reducible refine Ze ?_
  | with_reducible refine Z0 ?_
  | with_reducible refine Zw ?_
  | with_reducible refine Zb ?_
  | ((with_reducible apply Zr); rfl))
 refine Zy ?_
 refine Zdx (v := Iv _) rfl rfl ?_
 have := tz_db h0 (by omega)
 simp only [hx] at this
 rw [← this]
 rfl
theorem Z4p (hG : G 2 = some (Zaa u8N 64 dbF)) (n : Nat) (h0 : 0 < n) (h1 : n < 18446744073709551616) : Zac Tryd.prog G 48 [w64 (BitVec.ofNat 64 n)] [] (Iv (tz n)) [] := by
 refine Zb8 (fn := Tryd.f48) (nt := 8) rfl rfl rfl rfl ?_
 repeat (first
  | ((with_reducible apply Zd); rfl; rfl; (exact (rfl : _ = Value.int _ _)))
  | ((with_reducible apply Zc); rfl; rfl; (exact (rfl : _ = Value.int _ _)))
  | ((with_reducible apply Zv (Z24 hG n h0 h1)); rfl; rfl; rfl; rfl; rfl; (exact (rfl : _ = Value.int _ _)))
  | with_reducible refine Za ?_
  | with_reducible refine Zf ?_
  | with_reducible refine Ze ?_
  | with_reducible refine Z0 ?_
  | with_reducible refine Zw ?_
  | with_reducible refine Zb ?_
  | ((with_reducible apply Zr); rfl))
 refine Zy ?_
 exact Zdx (v := Iv _) rfl rfl rfl
end Go.Flat
end
section
namespace Go.Flat
open Go.Proofs
variable {G : Glob}
abbrev D := Nat → BitVec 8
def dsC (ds : List D) : List Value := (ds.map (Zaa w8 32)).flatten
def dsB (ds : List D) : Blk := { cells := dsC ds, sz := 32, wr := true, fix := false, mv := true, pur := true }
def dsR (ds : List D) : Blk := { cells := dsC ds, sz := 32, wr := false, fix := false, mv := true, pur := true }
def Zqa (v : Value) : Blk := { cells := [v], sz := 1, wr := true, fix := true, mv := false, pur := false }
theorem Zat (ds : List D) : (dsC ds).length = ds.length * 32 := by
 induction ds with
 | nil => rfl
 | cons d ds ih => simp only [dsC, List.map_cons, List.flatten_cons, List.length_append, Zbl, List.length_cons] at ih ⊢; omega
theorem Zgj (p q : List D) : dsC (p ++ q) = dsC p ++ dsC q := by simp [dsC]
theorem Zo6 (p q : List D) : (dsC (p ++ q)).drop (p.length * 32) = dsC q := by
 rw [Zgj, List.drop_append_of_le_length (by rw [Zat]; exact Nat.le_refl _), List.drop_of_length_le (by rw [Zat]; exact Nat.le_refl _), List.nil_append]
theorem Zo7 (p q : List D) : (dsC (p ++ q)).take (p.length * 32) = dsC p := by
 rw [Zgj, List.take_append_of_le_length (by rw [Zat]; exact Nat.le_refl _), List.take_of_length_le (by rw [Zat]; exact Nat.le_refl _)]
theorem Zfa (d : D) (q : List D) : dsC (d :: q) = Zaa w8 32 d ++ dsC q := by simp [dsC]
theorem Zvp (p : List D) (a : D) (q : List D) : ((dsC (p ++ a :: q)).drop (p.length * 32)).take 32 = Zaa w8 32 a := by
 rw [Zo6, Zfa, List.take_append_of_le_length (by rw [Zbl]; exact Nat.le_refl _), List.take_of_length_le (by rw [Zbl]; exact Nat.le_refl _)]
theorem Z3d (p : List D) (a b : D) (q : List D) : ((dsC (p ++ a :: b :: q)).drop ((p.length + 1) * 32)).take 32 = Zaa w8 32 b := by
 have := Zvp (p ++ [a]) b q
 simpa using this
theorem Zrp {n : Nat} (d : D) : (Zaa w8 n d).all Zbh = true := Zpy fun _ => rfl
set_option maxHeartbeats 4000000 in
theorem Z1k (kk : Nat → BitVec 32) (hG : G 0 = some (Zaa w32 64 kk)) (p : List D) (a b : D) (hp : p.length ≤ 1000000) :
  Zac Tryd.prog G 58 [pt 0 0] [Zqa (slv 1 0 (p.length + 2) (p.length + 2)), dsB (p ++ [a, b])] (.tuple #[]) [Zqa (slv 1 0 (p.length + 1) (p.length + 1)), dsB (p ++ [Zba kk a b])] := by
 refine Zb8 (fn := Tryd.f58) (nt := 21) rfl rfl rfl rfl ?_
 refine Zah 1 (H' := [Zqa (slv 1 0 (p.length + 2) (p.length + 2)), dsB (p ++ [a, b]), hole]) rfl ?_
 have hlen : (dsB (p ++ [a, b])).cells.length = (p.length + 2) * 32 := by show (dsC (p ++ [a, b])).length = _; rw [Zat]; simp
 repeat (first
  | ((with_reducible apply Zci); rfl; rfl; exact (rfl : _ = Value.slice (some ⟨_, _, _⟩) _ _); rfl; rfl; exact Zgt (h := p.length) rfl rfl (by omega) (by omega) rfl)
  | ((with_reducible apply Zg); rfl; rfl; exact (rfl : _ = Value.pointer (some ⟨1, _, _⟩)); first | exact Zcj (n := 32) rfl rfl (by omega) (Zvp p a [b]) | exact Zcj (n := 32) rfl rfl (by omega) (Z3d p a b []))
  | ((with_reducible apply Zdd (nid := 2)); rfl; rfl; rfl; exact (rfl : _ = some (Value.slice _ _ _, _)); exact (rfl : _ = _ :: _))
  | ((with_reducible apply Za5); rfl; rfl; rfl; exact .inl ⟨_, rfl⟩; exact (rfl : _ = Value.slice (some ⟨_, _, _⟩) _ _); exact (rfl : _ = Value.slice (some ⟨_, _, _⟩) _ _); exact Zcy (n' := p.length + 1) (rfl : _ = some (32, _, 32)) (rfl : _ = some (1, _)) rfl rfl rfl rfl rfl (by rw [hlen]; omega) (by decide) rfl (by omega); rfl; exact (rfl : _ = _ :: _))
  | ((with_reducible apply Zbe (j := p.length * 32)); rfl; rfl; exact (rfl : _ = Value.slice (some ⟨_, _, _⟩) _ _); (exact (rfl : _ = Value.int _ _)); (exact (rfl : _ = some (_, 32))); omega; omega; omega)
  | ((with_reducible apply Zbe (j := (p.length + 1) * 32)); rfl; rfl; exact (rfl : _ = Value.slice (some ⟨_, _, _⟩) _ _); (exact (rfl : _ = Value.int _ _)); (exact (rfl : _ = some (_, 32))); omega; omega; omega)
  | ((with_reducible apply Zd); rfl; rfl; (exact (rfl : _ = Value.int _ _)))
  | ((with_reducible apply Zc); rfl; rfl; (exact (rfl : _ = Value.int _ _)))
  | ((with_reducible apply Zi); rfl; rfl; (exact (rfl : _ = Value.int _ _)); (exact (rfl : _ = Value.int _ _)); (with_reducible exact Zb5 rfl (by omega) (by omega)))
  | ((with_reducible apply Zg); rfl; rfl; exact (rfl : _ = Value.pointer (some ⟨_, _, _⟩)); (exact (rfl : _ = some (Value.slice _ _ _))))
  | ((with_reducible apply Za6); rfl; rfl; (exact (rfl : _ = Value.slice _ _ _)); (exact (rfl : _ = some (Value.int _ _))))
  | ((with_reducible apply Zj); rfl; exact (rfl : _ = Value.pointer (some ⟨_, _, _⟩)); (exact (rfl : _ = Value.slice _ _ _)); (rfl); exact (rfl : _ = _ :: _))
  | ((with_reducible apply Zv (Zhs kk hG a b)); rfl; rfl; rfl; rfl; rfl; (exact (rfl : _ = Value.agg _)))
  | with_reducible refine Za ?_
  | with_reducible refine Zf ?_
  | with_reducible refine Ze ?_
  | with_reducible refine Zb ?_
  | (with_reducible refine Zca (by kernel_rfl) ?_)
  | (with_reducible refine Zc4 (by kernel_rfl) ?_))
 refine Zll ?_
 refine Zo (v := .tuple #[]) rfl ?_ rfl ?_ trivial
 ·have hq : List.take (p.length * 32) (List.drop 0 (dsC (p ++ [a, b]))) ++ Zaa w8 32 (Zba kk a b) = dsC (p ++ [Zba kk a b]) := by
   rw [List.drop_zero, Zo7, Zgj, Zfa]; simp [dsC]
  exact congrArg (fun q => [Zqa (slv 1 0 (p.length + 1) (p.length + 1)), ({ cells := q, sz := 32, wr := true, fix := false, mv := true, pur := true } : Blk)]) hq
 ·rfl
end Go.Flat
end
section
namespace Go.Flat
open Go.Proofs
variable {G : Glob}
def d0 : D := fun _ => 0
def Zgx (kk : Nat → BitVec 32) (P : List D) : List D := P.take (P.length - 2) ++ [Zba kk (P.getD (P.length - 2) d0) (P.getD (P.length - 1) d0)]
def Zbg (kk : Nat → BitVec 32) : Nat → List D → List D
  | 0, P => P
  | n + 1, P => Zgx kk (Zbg kk n P)
def Zar (kk : Nat → BitVec 32) (ds : List D) : Nat → List D
  | 0 => []
  | i + 1 => Zbg kk (tz (i + 1)) (Zar kk ds i ++ [ds.getD i d0])
theorem Zra (kk : Nat → BitVec 32) {P : List D} (h : 2 ≤ P.length) : (Zgx kk P).length = P.length - 1 := by simp [Zgx]; omega
theorem Ziu (kk : Nat → BitVec 32) {P : List D} : ∀ n, n + 1 ≤ P.length → (Zbg kk n P).length = P.length - n
 | 0, _ => rfl
 | n + 1, h => by
  have := Ziu kk (P := P) n (by omega)
  simp only [Zbg]
  rw [Zra kk (by omega), this]; omega
theorem Ze4 (kk : Nat → BitVec 32) (ds : List D) : ∀ i, (Zar kk ds i).length = Zak i
 | 0 => rfl
 | i + 1 => by
  have h1 := Ze4 kk ds i
  have h2 := (Zod i).1
  simp only [Zar, Zak]
  rw [Ziu kk _ (by simp; omega)]
  simp; omega
def Zm (kk : Nat → BitVec 32) (ds : List D) : D := if ds.length = 0 then Zbb kk [] else (Zbg kk (Zak ds.length - 1) (Zar kk ds ds.length)).getD 0 d0
theorem Z2n {P : List D} (h : 2 ≤ P.length) : P = P.take (P.length - 2) ++ [P.getD (P.length - 2) d0, P.getD (P.length - 1) d0] := by
 apply List.ext_getElem?
 intro i
 have hl : (P.take (P.length - 2)).length = P.length - 2 := by simp
 rcases Nat.lt_or_ge i (P.length - 2) with h1 | h1
 ·rw [List.getElem?_append_left (by omega), List.getElem?_take, if_pos h1]
 ·rw [List.getElem?_append_right (by omega), hl]
  rcases Nat.lt_or_ge i P.length with h2 | h2
  ·rcases Nat.eq_or_lt_of_le h1 with h3 | h3
   ·subst h3; simp [List.getD_eq_getElem?_getD]; rw [List.getElem?_eq_getElem (by omega)]; simp
   ·have : i = P.length - 1 := by omega
    subst this
    have e : P.length - 1 - (P.length - 2) = 1 := by omega
    rw [e]
    simp [List.getD_eq_getElem?_getD]; rw [List.getElem?_eq_getElem (by omega)]; simp
  ·rw [List.getElem?_eq_none h2, List.getElem?_eq_none (by simp; omega)]
theorem Zq9 (kk : Nat → BitVec 32) (hG : G 0 = some (Zaa w32 64 kk)) (P : List D) (h2 : 2 ≤ P.length) (hp : P.length ≤ 1000000) :
  Zac Tryd.prog G 58 [pt 0 0] [Zqa (slv 1 0 P.length P.length), dsB P] (.tuple #[]) [Zqa (slv 1 0 (Zgx kk P).length (Zgx kk P).length), dsB (Zgx kk P)] := by
 have h := Z1k (G := G) kk hG (P.take (P.length - 2)) (P.getD (P.length - 2) d0) (P.getD (P.length - 1) d0) (by simp; omega)
 rw [← Z2n h2] at h
 have e1 : (P.take (P.length - 2)).length + 2 = P.length := by simp; omega
 have e2 : (P.take (P.length - 2)).length + 1 = (Zgx kk P).length := by rw [Zra kk h2]; simp; omega
 rw [e1, e2] at h
 exact h
end Go.Flat
end
section
namespace Go.Flat
open Go.Proofs
variable {G : Glob}
theorem Zhy (ds : List D) (i : Nat) (h : i < ds.length) : ((dsC ds).drop (i * 32)).take 32 = Zaa w8 32 (ds.getD i d0) := by
 have e : ds = ds.take i ++ ds[i] :: ds.drop (i + 1) := by rw [← List.drop_eq_getElem_cons h, List.take_append_drop]
 have h2 := Zvp (ds.take i) ds[i] (ds.drop (i + 1))
 rw [← e] at h2
 rw [show (ds.take i).length = i from by simp; omega] at h2
 rw [h2]
 congr 1
 simp [List.getD_eq_getElem?_getD, h]
set_option maxHeartbeats 8000000 in
theorem Zln (kk : Nat → BitVec 32) (hG : G 0 = some (Zaa w32 64 kk)) (hG1 : G 2 = some (Zaa u8N 64 dbF)) (ds : List D) (c : Nat) (hn : ds.length ≤ 1000000) (hc : ds.length ≤ c) :
  Zac Tryd.prog G 38 [slv 0 0 ds.length c] [dsR ds] (dgV (Zm kk ds)) [dsR ds] := by
 refine Zb8 (fn := Tryd.f38) (nt := 41) rfl rfl rfl rfl ?_
 have hR : (dsR ds).cells.length = ds.length * 32 := Zat ds
 by_cases h0 : ds.length = 0
 ·refine Zah 1 (H' := [dsR ds, hole]) rfl ?_
  repeat (first
   | ((with_reducible apply Zd); rfl; rfl; (exact (rfl : _ = Value.slice _ _ _)))
   | ((with_reducible apply Zi); rfl; rfl; (exact (rfl : _ = Value.int _ _)); (exact (rfl : _ = Value.int _ _)); (with_reducible exact Zd2 (by omega)))
   | ((with_reducible apply Za6); rfl; rfl; (exact (rfl : _ = Value.slice _ _ _)); (exact (rfl : _ = some (Value.int _ _))))
   | ((with_reducible apply Zj); rfl; exact (rfl : _ = Value.pointer (some ⟨_, _, _⟩)); (exact (rfl : _ = Value.agg _)); (rfl); exact (rfl : _ = _ :: _))
   | ((with_reducible apply Zq (nid := 1)); rfl; rfl; rfl; exact (rfl : _ = _ :: _))
   | ((with_reducible apply Zv (Zlm kk hG)); rfl; rfl; rfl; rfl; rfl; (exact (rfl : _ = Value.agg _)))
   | with_reducible refine Za ?_
   | with_reducible refine Zf ?_
   | with_reducible refine Ze ?_
   | with_reducible refine Zw ?_
   | with_reducible refine Zb ?_
   | with_reducible refine Zaj ?_
   | ((with_reducible apply Zu); rfl))
  refine Zy ?_
  refine Zo (v := dgV (Zbb kk [])) rfl rfl rfl ?_ ?_
  ·simp [Za1, dsR]
  ·exact Za7 (Zaz fun _ => rfl) (by unfold Zm; rw [if_pos h0])
 ·refine Zah 2 (H' := [dsR ds, hole, hole]) rfl ?_
  repeat (first
   | ((with_reducible apply Zd); rfl; rfl; (first
   | exact (rfl : _ = Value.int _ _)
   | exact (rfl : _ = Value.slice _ _ _)))
   | ((with_reducible apply Zc); rfl; rfl; (exact (rfl : _ = Value.func _ _ _)))
   | ((with_reducible apply Zi); rfl; rfl; (exact (rfl : _ = Value.int _ _)); (exact (rfl : _ = Value.int _ _)); (with_reducible exact Zfc (by omega)))
   | ((with_reducible apply Zfq); rfl; rfl; (exact (rfl : _ = [])); (exact (rfl : _ = [_])); rfl)
   | ((with_reducible apply Za6); rfl; rfl; (exact (rfl : _ = Value.slice _ _ _)); (exact (rfl : _ = some (Value.int _ _))))
   | ((with_reducible apply Zq (nid := 1)); rfl; rfl; rfl; exact (rfl : _ = _ :: _))
   | ((with_reducible apply Zq (nid := 2)); rfl; rfl; rfl; exact (rfl : _ = _ :: _))
   | with_reducible refine Za ?_
   | with_reducible refine Zf ?_
   | with_reducible refine Ze ?_
   | with_reducible refine Z1 ?_
   | with_reducible refine Z0 ?_
   | with_reducible refine Zb ?_
   | ((with_reducible apply Zr); rfl))
  refine Zc8 (Zb2.nilCell (k := 2) (j := 0) (b := 3) true 32 rfl (by decide) rfl (by show 0 < 1; decide) rfl rfl) ?_
  refine Zby (fun i : Nat => [dead, dead, pt 1 0, pt 2 0, .func (.func 58) #[] #[pt 2 0]] ++ List.replicate 7 dead ++ [slv 0 0 ds.length c, Iv ds.length, Iv (i : Nat)])
   (fun i => [dsR ds, dgB (fun _ => 0), Zqa (slv 3 0 (Zar kk ds i).length (Zar kk ds i).length), dsB (Zar kk ds i)]) (fun i => i ≤ ds.length) (fun i => ds.length - i) 0 (by omega) ?_ ?_
  ·refine Z2 (n := 4) rfl ?_ rfl rfl
   repeat (first | exact trivial | refine ⟨.inl rfl, ?_⟩ | refine ⟨.inr ⟨rfl, rfl⟩, ?_⟩)
  ·intro i hi
   by_cases hlt : i < ds.length
   ·have hpl := Ze4 kk ds i
    obtain ⟨ok1, ok2, ok3⟩ := Zod i
    generalize hP : Zar kk ds i = P at hpl
    have hPl : (P ++ [ds.getD i d0]).length = Zak i + 1 := by simp [hpl]
    refine Zah 2 (H' := [dsR ds, dgB (fun _ => 0), Zqa (slv 3 0 P.length P.length), dsB P, hole, hole]) rfl ?_
    have hBl : (dsB P).cells.length = P.length * 32 := Zat P
    have htz : (BitVec.ofInt 64 ((i : Int) + 1)) = BitVec.ofNat 64 (i + 1) := by rw [show ((i : Int) + 1) = ((i + 1 : Nat) : Int) from rfl, BitVec.ofInt_natCast]
    repeat (first
     | ((with_reducible apply Zg); rfl; rfl; exact (rfl : _ = Value.pointer (some ⟨0, _, _⟩)); exact Zcj (n := 32) rfl rfl (by omega) (Zhy ds i hlt))
     | ((with_reducible apply Zdd (nid := 5)); rfl; rfl; rfl; exact (rfl : _ = some (Value.slice _ _ _, _)); exact (rfl : _ = _ :: _))
     | ((with_reducible apply Za5); rfl; rfl; rfl; exact .inl ⟨_, rfl⟩; exact (rfl : _ = Value.slice (some ⟨_, _, _⟩) _ _); exact (rfl : _ = Value.slice (some ⟨_, _, _⟩) _ _); exact Zcy (n' := (P ++ [ds.getD i d0]).length) (rfl : _ = some (32, _, 32)) (rfl : _ = some (1, _)) rfl rfl rfl rfl rfl (by rw [hBl]; omega) (by decide) (by simp) (by omega); rfl; exact (rfl : _ = _ :: _))
     | ((with_reducible apply Zcc); rfl; rfl; exact (rfl : _ = Value.int _ _); exact Zms rfl rfl htz)
     | ((with_reducible apply Zbe (j := i * 32)); rfl; rfl; exact (rfl : _ = Value.slice (some ⟨_, _, _⟩) _ _); (exact (rfl : _ = Value.int _ _)); (exact (rfl : _ = some (_, 32))); omega; omega; omega)
     | ((with_reducible apply Zd); rfl; rfl; (exact (rfl : _ = Value.int _ _)))
     | ((with_reducible apply Zc); rfl; rfl; (exact (rfl : _ = Value.int _ _)))
     | ((with_reducible apply Zi); rfl; rfl; (exact (rfl : _ = Value.int _ _)); (exact (rfl : _ = Value.int _ _)); (first
     | with_reducible exact Zcv (by omega)
     | with_reducible exact Zap rfl (by omega) (by omega)))
     | ((with_reducible apply Zg); rfl; rfl; exact (rfl : _ = Value.pointer (some ⟨_, _, _⟩)); (first
     | exact (rfl : _ = some (Value.slice _ _ _))
     | exact (rfl : _ = some (Value.agg _))))
     | ((with_reducible apply Zj); rfl; exact (rfl : _ = Value.pointer (some ⟨_, _, _⟩)); (first
     | exact (rfl : _ = Value.slice _ _ _)
     | exact (rfl : _ = Value.agg _)); (rfl); exact (rfl : _ = _ :: _))
     | ((with_reducible apply Zq (nid := 4)); rfl; rfl; rfl; exact (rfl : _ = _ :: _))
     | ((with_reducible apply Zv (Z4p hG1 (i + 1) (by omega) (by omega))); rfl; rfl; rfl; rfl; rfl; (exact (rfl : _ = Value.int _ _)))
     | with_reducible refine Za ?_
     | with_reducible refine Zf ?_
     | with_reducible refine Ze ?_
     | with_reducible refine Z1 ?_
     | with_reducible refine Z0 ?_
     | with_reducible refine Zb ?_
     | ((with_reducible apply Zu); rfl))
    have hcat : List.take (P.length * 32) (List.drop 0 (dsC P)) ++ Zaa w8 32 (ds.getD i d0) = dsC (P ++ [ds.getD i d0]) := by
     rw [List.drop_zero, List.take_of_length_le (by rw [Zat]; exact Nat.le_refl _), Zgj, Zfa]; simp [dsC]
    refine Zby (fun t : Nat => [dead, dead, pt 1 0, pt 2 0, .func (.func 58) #[] #[pt 2 0]] ++ List.replicate 7 dead ++ [slv 0 0 ds.length c, Iv ds.length, Iv (i : Nat)] ++ List.replicate 11 dead ++ [Iv (tz (i + 1)), Iv (t : Nat)])
     (fun t => [dsR ds, dgB (fun _ => 0), Zqa (slv 3 0 (Zbg kk t (P ++ [ds.getD i d0])).length (Zbg kk t (P ++ [ds.getD i d0])).length), dsB (Zbg kk t (P ++ [ds.getD i d0])), dgB (ds.getD i d0)]) (fun t => t ≤ tz (i + 1)) (fun t => tz (i + 1) - t) 0 (by omega) ?_ ?_
    ·refine Z2 (n := 5) rfl ?_ ?_ rfl
     repeat (first | exact trivial | refine ⟨.inl rfl, ?_⟩ | refine ⟨.inr ⟨rfl, rfl⟩, ?_⟩)
     ·exact congrArg (fun q => [dsR ds, dgB (fun _ => 0), Zqa (slv 3 0 (P ++ [ds.getD i d0]).length (P ++ [ds.getD i d0]).length), ({ cells := q, sz := 32, wr := true, fix := false, mv := true, pur := true } : Blk), dgB (ds.getD i d0)]) hcat
    ·intro t ht
     have hQl := Ziu kk (P := P ++ [ds.getD i d0]) t (by omega)
     by_cases hlt2 : t < tz (i + 1)
     ·generalize hQ : Zbg kk t (P ++ [ds.getD i d0]) = Q at hQl
      repeat (first
       | ((with_reducible apply Zev (e := [some (2, 0), some (3, 0)]) (nid := 0) (Zq9 kk hG Q (by omega) (by omega))); rfl; rfl; rfl; rfl; rfl; rfl; refine ⟨⟨⟨rfl, rfl⟩, trivial⟩, ⟨Zal rfl rfl rfl rfl, Zal rfl rfl rfl rfl, trivial⟩, rfl, rfl, rfl, Nat.le_refl _⟩; exact (rfl : _ = Value.tuple _); rfl; exact (rfl : _ = _ :: _))
       | ((with_reducible apply Zd); rfl; rfl; (first
       | exact (rfl : _ = Value.int _ _)
       | exact (rfl : _ = Value.func _ _ _)))
       | ((with_reducible apply Zi); rfl; rfl; (exact (rfl : _ = Value.int _ _)); (exact (rfl : _ = Value.int _ _)); (first
       | with_reducible exact Zcv (by omega)
       | with_reducible exact Zap rfl (by omega) (by omega)))
       | with_reducible refine Za ?_
       | with_reducible refine Zf ?_
       | with_reducible refine Ze ?_
       | with_reducible refine Z1 ?_
       | with_reducible refine Z0 ?_
       | with_reducible refine Zb ?_
       | with_reducible refine Zag ?_
       | ((with_reducible apply Zu); rfl))
      subst hQ
      refine Zx ⟨t + 1, by omega, by omega, ?_⟩
      refine Z2 (n := 5) rfl ?_ rfl rfl
      repeat (first | exact trivial | refine ⟨.inl rfl, ?_⟩ | refine ⟨.inr ⟨rfl, rfl⟩, ?_⟩)
     ·obtain rfl : t = tz (i + 1) := by omega
      repeat (first
       | ((with_reducible apply Zd); rfl; rfl; (exact (rfl : _ = Value.int _ _)))
       | ((with_reducible apply Zi); rfl; rfl; (exact (rfl : _ = Value.int _ _)); (exact (rfl : _ = Value.int _ _)); (first
       | with_reducible exact Zbv (by omega)
       | with_reducible exact Zap rfl (by omega) (by omega)))
       | with_reducible refine Za ?_
       | with_reducible refine Zf ?_
       | with_reducible refine Ze ?_
       | with_reducible refine Zbx ?_
       | with_reducible refine Zb ?_
       | with_reducible refine Zay ?_
       | with_reducible refine Zag ?_
       | with_reducible refine Zav ?_
       | ((with_reducible apply Zr); rfl)
       | ((with_reducible apply Za2); rfl))
      subst hP
      refine Zx ⟨i + 1, by omega, by omega, ?_⟩
      refine Z2 (n := 4) rfl ?_ rfl rfl
      repeat (first | exact trivial | refine ⟨.inl rfl, ?_⟩ | refine ⟨.inr ⟨rfl, rfl⟩, ?_⟩)
   ·obtain rfl : i = ds.length := by omega
    have hpl := Ze4 kk ds ds.length
    obtain ⟨ok1, ok2, ok3⟩ := Zod (ds.length - 1)
    rw [show ds.length - 1 + 1 = ds.length from by omega] at ok2
    have hle : Zak ds.length ≤ ds.length := by
     exact Zoc _
    generalize hP : Zar kk ds ds.length = P at hpl
    repeat (first
     | ((with_reducible apply Zi); rfl; rfl; (exact (rfl : _ = Value.int _ _)); (exact (rfl : _ = Value.int _ _)); (with_reducible exact Zbv (by omega)))
     | with_reducible refine Za ?_
     | with_reducible refine Zf ?_
     | with_reducible refine Ze ?_
     | with_reducible refine Z1 ?_
     | with_reducible refine Zbx ?_
     | with_reducible refine Zb ?_
     | with_reducible refine Zay ?_
     | with_reducible refine Zav ?_
     | ((with_reducible apply Zr); rfl)
     | ((with_reducible apply Za2); rfl))
    refine Zby (fun t : Nat => [dead, dead, pt 1 0, pt 2 0, .func (.func 58) #[] #[pt 2 0]])
     (fun t => [dsR ds, dgB (fun _ => 0), Zqa (slv 3 0 (Zbg kk t P).length (Zbg kk t P).length), dsB (Zbg kk t P)]) (fun t => t + 1 ≤ P.length) (fun t => P.length - t) 0 (by omega) ?_ ?_
    ·subst hP
     refine Z2 (n := 4) rfl ?_ rfl rfl
     repeat (first | exact trivial | refine ⟨.inl rfl, ?_⟩ | refine ⟨.inr ⟨rfl, rfl⟩, ?_⟩)
    ·intro t ht
     have hQl := Ziu kk (P := P) t ht
     by_cases hlt2 : t + 2 ≤ P.length
     ·generalize hQ : Zbg kk t P = Q at hQl
      repeat (first
       | ((with_reducible apply Zev (e := [some (2, 0), some (3, 0)]) (nid := 0) (Zq9 kk hG Q (by omega) (by omega))); rfl; rfl; rfl; rfl; rfl; rfl; refine ⟨⟨⟨rfl, rfl⟩, trivial⟩, ⟨Zal rfl rfl rfl rfl, Zal rfl rfl rfl rfl, trivial⟩, rfl, rfl, rfl, Nat.le_refl _⟩; exact (rfl : _ = Value.tuple _); rfl; exact (rfl : _ = _ :: _))
       | ((with_reducible apply Zd); rfl; rfl; (exact (rfl : _ = Value.func _ _ _)))
       | ((with_reducible apply Zi); rfl; rfl; (exact (rfl : _ = Value.int _ _)); (exact (rfl : _ = Value.int _ _)); (with_reducible exact Zde (by omega)))
       | ((with_reducible apply Zg); rfl; rfl; exact (rfl : _ = Value.pointer (some ⟨_, _, _⟩)); (exact (rfl : _ = some (Value.slice _ _ _))))
       | ((with_reducible apply Za6); rfl; rfl; (exact (rfl : _ = Value.slice _ _ _)); (exact (rfl : _ = some (Value.int _ _))))
       | with_reducible refine Za ?_
       | with_reducible refine Zf ?_
       | with_reducible refine Ze ?_
       | with_reducible refine Z1 ?_
       | with_reducible refine Z0 ?_
       | with_reducible refine Zb ?_
       | with_reducible refine Zag ?_
       | ((with_reducible apply Zu); rfl))
      subst hQ
      refine Zx ⟨t + 1, by omega, by omega, ?_⟩
      refine Z2 (n := 4) rfl ?_ rfl rfl
      repeat (first | exact trivial | refine ⟨.inl rfl, ?_⟩ | refine ⟨.inr ⟨rfl, rfl⟩, ?_⟩)
     ·have ht1 : t = P.length - 1 := by omega
      have hQ1 : (Zbg kk t P).length = 1 := by omega
      have hroot : (Zbg kk t P).getD 0 d0 = Zm kk ds := by
       unfold Zm; rw [if_neg h0, hP, ← hpl, ← ht1]
      have hat := Zhy (Zbg kk t P) 0 (by omega)
      rw [hroot] at hat
      have hBl : (dsB (Zbg kk t P)).cells.length = 32 := by show (dsC _).length = _; rw [Zat, hQ1]
      generalize hQ : Zbg kk t P = Q at hQl hQ1 hat hBl
      repeat (first
       | ((with_reducible apply Zg); rfl; rfl; exact (rfl : _ = Value.pointer (some ⟨3, _, _⟩)); exact Zcj (n := 32) rfl rfl (by omega) hat)
       | ((with_reducible apply Zbe (j := 0)); rfl; rfl; exact (rfl : _ = Value.slice (some ⟨_, _, _⟩) _ _); (exact (rfl : _ = Value.int _ _)); (exact (rfl : _ = some (_, 32))); omega; omega; omega)
       | ((with_reducible apply Zi); rfl; rfl; (exact (rfl : _ = Value.int _ _)); (exact (rfl : _ = Value.int _ _)); (with_reducible exact Zcw (by omega)))
       | ((with_reducible apply Zg); rfl; rfl; exact (rfl : _ = Value.pointer (some ⟨_, _, _⟩)); (exact (rfl : _ = some (Value.slice _ _ _))))
       | ((with_reducible apply Za6); rfl; rfl; (exact (rfl : _ = Value.slice _ _ _)); (exact (rfl : _ = some (Value.int _ _))))
       | ((with_reducible apply Zj); rfl; exact (rfl : _ = Value.pointer (some ⟨_, _, _⟩)); (exact (rfl : _ = Value.agg _)); (rfl); exact (rfl : _ = _ :: _))
       | with_reducible refine Za ?_
       | with_reducible refine Zf ?_
       | with_reducible refine Ze ?_
       | with_reducible refine Zbx ?_
       | with_reducible refine Zw ?_
       | with_reducible refine Zb ?_
       | with_reducible refine Zay ?_
       | with_reducible refine Zav ?_
       | ((with_reducible apply Zr); rfl)
       | ((with_reducible apply Za2); rfl))
      refine Zy ?_
      refine Zo (v := dgV (Zm kk ds)) rfl rfl rfl ?_ ?_
      ·simp [Za1, dsR]
      ·exact Za7 (Zaz fun _ => rfl) rfl
end Go.Flat
end
section
namespace Go.Flat
open Go.Proofs
variable {G : Glob}
def sameDs (us vs : List D) : Bool := us.length == vs.length && (List.range us.length).all fun i => Zbm 32 (us.getD i d0) (vs.getD i d0)
end Go.Flat
end
section
namespace Go.Flat
open Go.Proofs
variable {G : Glob}
theorem Z3e (Q : List D) (i : Nat) (d : D) (h : i < Q.length) : splice (dsC Q) (i * 32) (Zaa w8 32 d) = dsC (Q.set i d) := by
 have e : Q = Q.take i ++ Q[i] :: Q.drop (i + 1) := by rw [← List.drop_eq_getElem_cons h, List.take_append_drop]
 have hl : (Q.take i).length = i := by simp; omega
 have h1 : (dsC Q).take (i * 32) = dsC (Q.take i) := by
  have := Zo7 (Q.take i) (Q[i] :: Q.drop (i + 1))
  rw [← e, hl] at this; exact this
 have h2 : (dsC Q).drop (i * 32 + 32) = dsC (Q.drop (i + 1)) := by
  have := Zo6 (Q.take (i + 1)) (Q.drop (i + 1))
  rw [List.take_append_drop] at this
  rw [show (Q.take (i + 1)).length = i + 1 from by simp; omega] at this
  rw [← this]; congr 1; omega
 unfold splice
 rw [h1, Zbl, h2, List.set_eq_take_append_cons_drop, if_pos h, Zgj, Zfa, List.append_assoc]
theorem Zi5 {P : Program} {t : TypeId} {H : List Blk} {b o i : Nat} {blk : Blk} {Q : List D} {d : D} (hk : Zea P t = some (true, 32)) (hb : H[b]? = some blk) (hw : blk.wr = true) (hc : blk.cells = dsC Q) (hi : i < Q.length) (ho : o = i * 32) :
  Zfk P t H (.pointer (some ⟨b, o, none⟩)) (dgV d) = some (b, { blk with cells := dsC (Q.set i d) }) := by
 subst ho
 unfold Zfk
 rw [hk]
 simp only [hb, Option.bind_some, hw, hc]
 rw [if_pos]
 ·have e : (dgV d).cells.toList = Zaa w8 32 d := rfl
  rw [e, Z3e Q i d hi]
 ·have h1 : (Zaa w8 32 d).all Zbh = true := Zrp d
  have h2 : (Zaa w8 32 d).all Zi4 = true := Zpy fun _ => rfl
  simp only [Bool.true_and, Bool.and_eq_true, decide_eq_true_eq, beq_iff_eq, Zat]
  refine ⟨⟨by show (Zaa w8 32 d).toArray.size = 32; simp [Zbl], ?_⟩, by omega⟩
  show Zdh blk.pur (Zaa w8 32 d) = true
  unfold Zdh
  split
  ·exact h1
  ·exact h2
def Zjq (P : List D) : Nat → List D
  | 0 => P
  | i + 1 => ((Zjq P i).set i ((Zjq P i).getD (P.length - 1 - i) d0)).set (P.length - 1 - i) ((Zjq P i).getD i d0)
theorem Zmb (P : List D) : ∀ i, (Zjq P i).length = P.length
 | 0 => rfl
 | i + 1 => by simp [Zjq, Zmb P i]
def dsM (b : Bool) (ds : List D) : Blk := { cells := dsC ds, sz := 32, wr := true, fix := false, mv := b, pur := true }
set_option maxHeartbeats 4000000 in
theorem Zj4 (b : Bool) (P : List D) (c : Nat) (hn : P.length ≤ 1000000) :
  Zac Tryd.prog G 39 [slv 0 0 P.length c] [dsM b P] (.tuple #[]) [dsM b (Zjq P (P.length / 2))] := by
 refine Zb8 (fn := Tryd.f39) (nt := 28) rfl rfl rfl rfl ?_
 repeat (first
  | ((with_reducible apply Zd); rfl; rfl; (exact (rfl : _ = Value.slice _ _ _)))
  | ((with_reducible apply Zc); rfl; rfl; (exact (rfl : _ = Value.int _ _)))
  | ((with_reducible apply Zi); rfl; rfl; (exact (rfl : _ = Value.int _ _)); (exact (rfl : _ = Value.int _ _)); (with_reducible exact Zb5 rfl (by omega) (by omega)))
  | ((with_reducible apply Za6); rfl; rfl; (exact (rfl : _ = Value.slice _ _ _)); (exact (rfl : _ = some (Value.int _ _))))
  | with_reducible refine Za ?_
  | with_reducible refine Zf ?_
  | with_reducible refine Ze ?_
  | with_reducible refine Z1 ?_
  | with_reducible refine Zb ?_)
 refine Zby (fun i : Nat => [slv 0 0 P.length c, dead, Iv (i : Nat), Iv ((P.length : Int) - 1 - i)]) (fun i => [dsM b (Zjq P i)]) (fun i => i ≤ P.length / 2) (fun i => P.length - i) 0 (by omega) ?_ ?_
 ·refine Z2 (n := 1) rfl ?_ rfl ?_
  ·refine ⟨.inr ⟨rfl, rfl⟩, .inl rfl, .inr ⟨rfl, rfl⟩, .inr ⟨?_, rfl⟩, trivial⟩
   show Value.int .i64 ((P.length : Int) - 1 - (0 : Nat)) = Value.int .i64 ((P.length : Int) - 1)
   congr 1; omega
  ·simp [dsM]
 ·intro i hi
  have hQl := Zmb P i
  by_cases hlt : (i : Int) < (P.length : Int) - 1 - i
  ·have hQc : (dsM b (Zjq P i)).cells.length = P.length * 32 := by show (dsC _).length = _; rw [Zat, hQl]
   have hati := Zhy (Zjq P i) i (by omega)
   have hatj := Zhy (Zjq P i) (P.length - 1 - i) (by omega)
   generalize hQ : Zjq P i = Q at hQl hQc hati hatj
   repeat (first
    | ((with_reducible apply Zg); rfl; rfl; exact (rfl : _ = Value.pointer (some ⟨_, _, _⟩)); first | exact Zcj (n := 32) rfl rfl (by omega) hati | exact Zcj (n := 32) rfl rfl (by omega) hatj)
    | ((with_reducible apply Zj); rfl; exact (rfl : _ = Value.pointer (some ⟨_, _, _⟩)); exact (rfl : _ = Value.agg _); (first
    | exact Zi5 (d := Q.getD (P.length - 1 - i) d0) (i := i) (Q := Q) rfl rfl rfl rfl (by omega) rfl
    | exact Zi5 (d := Q.getD i d0) (i := P.length - 1 - i) (Q := Q.set i (Q.getD (P.length - 1 - i) d0)) rfl rfl rfl rfl (by simp; omega) rfl); exact (rfl : _ = _ :: _))
    | ((with_reducible apply Zbe (j := i * 32)); rfl; rfl; exact (rfl : _ = Value.slice (some ⟨_, _, _⟩) _ _); (exact (rfl : _ = Value.int _ _)); (exact (rfl : _ = some (_, 32))); omega; omega; omega)
    | ((with_reducible apply Zbe (j := (P.length - 1 - i) * 32)); rfl; rfl; exact (rfl : _ = Value.slice (some ⟨_, _, _⟩) _ _); (exact (rfl : _ = Value.int _ _)); (exact (rfl : _ = some (_, 32))); omega; omega; omega)
    | ((with_reducible apply Zd); rfl; rfl; (first
    | exact (rfl : _ = Value.int _ _)
    | exact (rfl : _ = Value.slice _ _ _)))
    | ((with_reducible apply Zc); rfl; rfl; (exact (rfl : _ = Value.int _ _)))
    | ((with_reducible apply Zi); rfl; rfl; (exact (rfl : _ = Value.int _ _)); (exact (rfl : _ = Value.int _ _)); (first
    | with_reducible exact Zcv (by omega)
    | with_reducible exact Zap rfl (by omega) (by omega)
    | with_reducible exact Zb5 rfl (by omega) (by omega)))
    | with_reducible refine Za ?_
    | with_reducible refine Zf ?_
    | with_reducible refine Ze ?_
    | with_reducible refine Z1 ?_
    | with_reducible refine Z0 ?_
    | with_reducible refine Zb ?_
    | with_reducible refine Zag ?_
    | (with_reducible refine Zca (by kernel_rfl) ?_)
    | (with_reducible refine Zc4 (by kernel_rfl) ?_)
    | ((with_reducible apply Zu); rfl))
   subst hQ
   refine Zx ⟨i + 1, by omega, by omega, ?_⟩
   refine Z2 (n := 1) rfl ?_ rfl ?_
   ·refine ⟨.inr ⟨rfl, rfl⟩, .inl rfl, .inr ⟨rfl, rfl⟩, .inr ⟨?_, rfl⟩, trivial⟩
    show Value.int .i64 ((P.length : Int) - 1 - ((i + 1 : Nat) : Int)) = Value.int .i64 ((P.length : Int) - 1 - i - 1)
    congr 1; omega
   ·simp [dsM]
  ·have hie : i = P.length / 2 := by omega
   subst hie
   repeat (first
    | ((with_reducible apply Zd); rfl; rfl; (exact (rfl : _ = Value.int _ _)))
    | ((with_reducible apply Zi); rfl; rfl; (exact (rfl : _ = Value.int _ _)); (exact (rfl : _ = Value.int _ _)); (with_reducible exact Zbv (by omega)))
    | with_reducible refine Za ?_
    | with_reducible refine Zf ?_
    | with_reducible refine Ze ?_
    | with_reducible refine Zbx ?_
    | with_reducible refine Zb ?_
    | with_reducible refine Zay ?_
    | with_reducible refine Zav ?_
    | ((with_reducible apply Zr); rfl)
    | ((with_reducible apply Za2); rfl))
   refine Zll ?_
   refine Zo (v := .tuple #[]) rfl rfl rfl ?_ trivial
   simp [Za1, dsM]
end Go.Flat
end
section
namespace Go.Flat
open Go.Proofs
variable {G : Glob}
def Zfp (kk : Nat → BitVec 32) (f : Nat) (l : List D) (i : Nat) (down : List D) : List D :=
  match f with
  | 0 => down
  | f + 1 => if l.length ≤ 1 then down else
      let k := (Zct l.length).toNat
      if i < k then Zfp kk f (l.take k) i (down ++ [Zm kk (l.drop k)]) else Zfp kk f (l.drop k) (i - k) (down ++ [Zm kk (l.take k)])
theorem Zdt {n : Nat} (h : 2 ≤ n) : 1 ≤ (Zct n).toNat ∧ (Zct n).toNat < n ∧ Zct n = ((Zct n).toNat : Int) := by
 unfold Zct
 rw [if_neg (by omega)]
 have hb : ((n : Int) - 1).toNat = n - 1 := by omega
 rw [hb]
 have h0 : n - 1 ≠ 0 := by omega
 have e : Zaw (n - 1) - 1 = (n - 1).log2 := by unfold Zaw; rw [if_neg h0]; rfl
 rw [e]
 have h1 := Nat.log2_self_le h0
 have h2 : (2 : Int) ^ (n - 1).log2 = ((2 ^ (n - 1).log2 : Nat) : Int) := by simp
 have h3 : 0 < 2 ^ (n - 1).log2 := Nat.pow_pos (by decide)
 rw [h2, Int.toNat_natCast]
 refine ⟨h3, by omega, rfl⟩
theorem Zft (ds : List D) : (([dsR ds] : List Blk).all (Za1 ([dsR ds] : List Blk).length)) = true := by simp [Za1, dsR]
end Go.Flat
end
section
namespace Go.Flat
open Go.Proofs
variable {G : Glob}
def sub (ds : List D) (o m : Nat) : List D := (ds.drop o).take m
theorem Zau {ds : List D} {o m : Nat} (h : o + m ≤ ds.length) : (sub ds o m).length = m := by simp [sub]; omega
theorem Zmi {ds : List D} {o m k : Nat} (h : k ≤ m) : (sub ds o m).take k = sub ds o k := by simp [sub, List.take_take, Nat.min_eq_left h]
theorem Zmh {ds : List D} {o m k : Nat} : (sub ds o m).drop k = sub ds (o + k) (m - k) := by simp [sub, List.drop_take]
theorem Zkq {ds : List D} {o m : Nat} (h : o + m ≤ ds.length) : ((dsC ds).drop (o * 32)).take (m * 32) = dsC (sub ds o m) := by
 have e : ds = ds.take o ++ ds.drop o := (List.take_append_drop o ds).symm
 have h1 := Zo6 (ds.take o) (ds.drop o)
 rw [← e, show (ds.take o).length = o from by simp; omega] at h1
 rw [h1]
 have h2 := Zo7 ((ds.drop o).take m) ((ds.drop o).drop m)
 rw [List.take_append_drop, show ((ds.drop o).take m).length = m from by simp; omega] at h2
 exact h2
theorem Zyb (ds : List D) : sub ds 0 ds.length = ds := by simp [sub]
structure IncS where
  o : Nat
  m : Nat
  cap : Nat
  i : Nat
  f : Nat
  down : List D
set_option maxHeartbeats 8000000 in
theorem Zr3 (kk : Nat → BitVec 32) (hG : G 0 = some (Zaa w32 64 kk)) (hG1 : G 2 = some (Zaa u8N 64 dbF)) (ds : List D) (c i : Nat) (hn : ds.length ≤ 1000000) (hc : ds.length ≤ c) (hi : i < ds.length) :
  let down := Zfp kk ds.length ds i []
  Zac Tryd.prog G 12 [slv 0 0 ds.length c, Iv (i : Nat)] [dsR ds] (.tuple #[slv 1 0 down.length down.length, Iv 0]) [dsR ds, dsB (Zjq down (down.length / 2))] := by
 intro down
 refine Zb8 (fn := Tryd.f12) (nt := 51) rfl rfl rfl rfl ?_
 repeat (first
  | ((with_reducible apply Zd); rfl; rfl; (first
  | exact (rfl : _ = Value.int _ _)
  | exact (rfl : _ = Value.bool _)
  | exact (rfl : _ = Value.slice _ _ _)))
  | ((with_reducible apply Zc); rfl; rfl; (first
  | exact (rfl : _ = Value.int _ _)
  | exact (rfl : _ = Value.slice _ _ _)))
  | ((with_reducible apply Zi); rfl; rfl; (exact (rfl : _ = Value.int _ _)); (exact (rfl : _ = Value.int _ _)); (first
  | with_reducible exact Zbv (by omega)
  | with_reducible exact Zis (by omega)))
  | ((with_reducible apply Zp); rfl; rfl; (exact (rfl : _ = some (Value.bool _))))
  | ((with_reducible apply Za6); rfl; rfl; (exact (rfl : _ = Value.slice _ _ _)); (exact (rfl : _ = some (Value.int _ _))))
  | with_reducible refine Za ?_
  | with_reducible refine Zf ?_
  | with_reducible refine Ze ?_
  | with_reducible refine Z1 ?_
  | with_reducible refine Z0 ?_
  | with_reducible refine Zb ?_
  | ((with_reducible apply Zr); rfl))
 refine Zc8 (Zb2.nilTmp (i := 6) (b := 1) true 32 rfl (by decide) rfl) ?_
 refine Zby (fun x : IncS => [slv 0 (x.o * 32) x.m x.cap, Iv (x.i : Nat), dead, dead, dead, dead, slv 1 0 x.down.length x.down.length]) (fun x => [dsR ds, dsB x.down])
  (fun x => x.o + x.m ≤ ds.length ∧ x.m ≤ x.cap ∧ x.i < x.m ∧ x.down.length + x.m ≤ ds.length ∧ x.m ≤ x.f + 1 ∧ Zfp kk x.f (sub ds x.o x.m) x.i x.down = down) (fun x => x.m) ⟨0, ds.length, c, i, ds.length, []⟩ ⟨by simp, hc, hi, by simp, by simp, by rw [Zyb]⟩ ?_ ?_
 ·refine Z2 (n := 2) rfl ?_ rfl ?_
  repeat (first | exact trivial | refine ⟨.inl rfl, ?_⟩ | refine ⟨.inr ⟨rfl, rfl⟩, ?_⟩)
  ·simp [dsR, dsB]
 ·rintro ⟨o, m, cap, i, f, dn⟩ ⟨h1, h2, h3, h4, h5, h6⟩
  dsimp only at h1 h2 h3 h4 h5 h6 ⊢
  have hDc : (dsB dn).cells.length = dn.length * 32 := Zat dn
  by_cases hm : 1 < m
  ·obtain ⟨s1, s2, s3⟩ := Zdt (n := m) (by omega)
   have hS := Zil (G := G) (m : Int) (by omega)
   rw [s3] at hS
   generalize hk : (Zct (m : Int)).toNat = k at hS s1 s2
   by_cases hik : i < k
   ·have hR := Zln (G := G) kk hG hG1 (sub ds (o + k) (m - k)) (cap - k) (by rw [Zau (by omega)]; omega) (by rw [Zau (by omega)]; omega)
    rw [Zau (by omega)] at hR
    have hE1 : (o + k) * 32 + (dsR (sub ds (o + k) (m - k))).cells.length ≤ (dsR ds).cells.length := by
     show _ + (dsC _).length ≤ (dsC _).length
     rw [Zat, Zat, Zau (by omega)]; omega
    have hE2 : ((dsR ds).cells.drop ((o + k) * 32)).take (dsR (sub ds (o + k) (m - k))).cells.length = Zb7 [some (0, (o + k) * 32)] (dsR (sub ds (o + k) (m - k))) := by
     show ((dsC ds).drop ((o + k) * 32)).take (dsC (sub ds (o + k) (m - k))).length = dsC (sub ds (o + k) (m - k))
     rw [Zat, Zau (by omega)]
     exact Zkq (by omega)
    have hcat : List.take (dn.length * 32) (List.drop 0 (dsC dn)) ++ Zaa w8 32 (Zm kk (sub ds (o + k) (m - k))) = dsC (dn ++ [Zm kk (sub ds (o + k) (m - k))]) := by
     rw [List.drop_zero, List.take_of_length_le (by rw [Zat]; exact Nat.le_refl _), Zgj, Zfa]; simp [dsC]
    have hl1 : (dn ++ [Zm kk (sub ds (o + k) (m - k))]).length = dn.length + 1 := by simp
    obtain ⟨f, rfl⟩ : ∃ f', f = f' + 1 := ⟨f - 1, by omega⟩
    refine Zah 1 (H' := [dsR ds, dsB dn, hole]) rfl ?_
    repeat (first
     | ((with_reducible apply Zci); rfl; rfl; exact (rfl : _ = Value.slice (some ⟨_, _, _⟩) _ _); rfl; rfl; first | exact Zgt (h := k) rfl rfl rfl (by omega) rfl | exact Zhn (l := k) (sz := 32) (j := (o + k) * 32) (m := m - k) (c' := cap - k) rfl rfl rfl rfl (by omega) (by omega) rfl (by omega) (by omega) (by omega))
     | ((with_reducible apply Zab (e := [some (0, (o + k) * 32)]) (nid := 0) hR); rfl; rfl; rfl; rfl; rfl; rfl; rfl; refine ⟨⟨⟨rfl, rfl, rfl, Nat.le_refl _, by omega⟩, trivial⟩, ⟨Zbu rfl rfl hE1 hE2, trivial⟩, rfl, rfl, rfl⟩; exact (rfl : _ = Value.agg _); exact (rfl : _ = _ :: _))
     | ((with_reducible apply Zdd (nid := 2)); rfl; rfl; rfl; exact (rfl : _ = some (Value.slice _ _ _, _)); exact (rfl : _ = _ :: _))
     | ((with_reducible apply Za5); rfl; rfl; rfl; exact .inl ⟨_, rfl⟩; exact (rfl : _ = Value.slice (some ⟨_, _, _⟩) _ _); exact (rfl : _ = Value.slice (some ⟨_, _, _⟩) _ _); exact Zcy (n' := (dn ++ [Zm kk (sub ds (o + k) (m - k))]).length) (rfl : _ = some (32, _, 32)) (rfl : _ = some (1, _)) rfl rfl rfl rfl rfl (by rw [hDc]; omega) (by decide) hl1.symm (by omega); rfl; exact (rfl : _ = _ :: _))
     | ((with_reducible apply Zd); rfl; rfl; (first
     | exact (rfl : _ = Value.int _ _)
     | exact (rfl : _ = Value.slice _ _ _)))
     | ((with_reducible apply Zc); rfl; rfl; (first
     | exact (rfl : _ = Value.int _ _)
     | exact (rfl : _ = Value.slice _ _ _)))
     | ((with_reducible apply Zi); rfl; rfl; (exact (rfl : _ = Value.int _ _)); (exact (rfl : _ = Value.int _ _)); (first
     | with_reducible exact Zcv (by omega)
     | with_reducible exact Zde (by omega)))
     | ((with_reducible apply Za6); rfl; rfl; (exact (rfl : _ = Value.slice _ _ _)); (exact (rfl : _ = some (Value.int _ _))))
     | ((with_reducible apply Zv (hS)); rfl; rfl; rfl; rfl; rfl; (exact (rfl : _ = Value.int _ _)))
     | with_reducible refine Za ?_
     | with_reducible refine Zf ?_
     | with_reducible refine Ze ?_
     | with_reducible refine Z1 ?_
     | with_reducible refine Z0 ?_
     | with_reducible refine Zb ?_
     | with_reducible refine Zag ?_
     | ((with_reducible apply Zu); rfl))
    refine Zx ⟨⟨o, k, cap, i, f, dn ++ [Zm kk (sub ds (o + k) (m - k))]⟩, ⟨?_, ?_, ?_, ?_, ?_, ?_⟩, ?_, ?_⟩ <;> dsimp only
    ·omega
    ·omega
    ·omega
    ·rw [hl1]; omega
    ·omega
    ·rw [← h6]
     have hsl := Zau (ds := ds) (o := o) (m := m) h1
     conv => rhs; unfold Zfp
     rw [if_neg (by omega)]
     simp only [hsl, hk]
     rw [if_pos hik, Zmi (by omega), Zmh]
    ·omega
    ·refine Z2 (n := 2) rfl ?_ ?_ ?_
     ·refine ⟨.inr ⟨?_, rfl⟩, .inr ⟨?_, rfl⟩, .inl rfl, .inl rfl, .inl rfl, .inl rfl, .inr ⟨rfl, rfl⟩, trivial⟩
      ·rfl
      ·first | rfl | (show Value.int .i64 ((i - k : Nat) : Int) = Value.int .i64 ((i : Int) - k); congr 1; omega)
     ·exact congrArg (fun q => [dsR ds, ({ cells := q, sz := 32, wr := true, fix := false, mv := true, pur := true } : Blk)]) hcat
     ·simp [dsR, dsB]
   ·have hR := Zln (G := G) kk hG hG1 (sub ds (o) (k)) (cap) (by rw [Zau (by omega)]; omega) (by rw [Zau (by omega)]; omega)
    rw [Zau (by omega)] at hR
    have hE1 : (o) * 32 + (dsR (sub ds (o) (k))).cells.length ≤ (dsR ds).cells.length := by
     show _ + (dsC _).length ≤ (dsC _).length
     rw [Zat, Zat, Zau (by omega)]; omega
    have hE2 : ((dsR ds).cells.drop ((o) * 32)).take (dsR (sub ds (o) (k))).cells.length = Zb7 [some (0, (o) * 32)] (dsR (sub ds (o) (k))) := by
     show ((dsC ds).drop ((o) * 32)).take (dsC (sub ds (o) (k))).length = dsC (sub ds (o) (k))
     rw [Zat, Zau (by omega)]
     exact Zkq (by omega)
    have hcat : List.take (dn.length * 32) (List.drop 0 (dsC dn)) ++ Zaa w8 32 (Zm kk (sub ds (o) (k))) = dsC (dn ++ [Zm kk (sub ds (o) (k))]) := by
     rw [List.drop_zero, List.take_of_length_le (by rw [Zat]; exact Nat.le_refl _), Zgj, Zfa]; simp [dsC]
    have hl1 : (dn ++ [Zm kk (sub ds (o) (k))]).length = dn.length + 1 := by simp
    obtain ⟨f, rfl⟩ : ∃ f', f = f' + 1 := ⟨f - 1, by omega⟩
    refine Zah 1 (H' := [dsR ds, dsB dn, hole]) rfl ?_
    repeat (first
     | ((with_reducible apply Zci); rfl; rfl; exact (rfl : _ = Value.slice (some ⟨_, _, _⟩) _ _); rfl; rfl; first | exact Zgt (h := k) rfl rfl rfl (by omega) rfl | exact Zhn (l := k) (sz := 32) (j := (o + k) * 32) (m := m - k) (c' := cap - k) rfl rfl rfl rfl (by omega) (by omega) rfl (by omega) (by omega) (by omega))
     | ((with_reducible apply Zab (e := [some (0, (o) * 32)]) (nid := 0) hR); rfl; rfl; rfl; rfl; rfl; rfl; rfl; refine ⟨⟨⟨rfl, rfl, rfl, Nat.le_refl _, by omega⟩, trivial⟩, ⟨Zbu rfl rfl hE1 hE2, trivial⟩, rfl, rfl, rfl⟩; exact (rfl : _ = Value.agg _); exact (rfl : _ = _ :: _))
     | ((with_reducible apply Zdd (nid := 2)); rfl; rfl; rfl; exact (rfl : _ = some (Value.slice _ _ _, _)); exact (rfl : _ = _ :: _))
     | ((with_reducible apply Za5); rfl; rfl; rfl; exact .inl ⟨_, rfl⟩; exact (rfl : _ = Value.slice (some ⟨_, _, _⟩) _ _); exact (rfl : _ = Value.slice (some ⟨_, _, _⟩) _ _); exact Zcy (n' := (dn ++ [Zm kk (sub ds (o) (k))]).length) (rfl : _ = some (32, _, 32)) (rfl : _ = some (1, _)) rfl rfl rfl rfl rfl (by rw [hDc]; omega) (by decide) hl1.symm (by omega); rfl; exact (rfl : _ = _ :: _))
     | ((with_reducible apply Zd); rfl; rfl; (first
     | exact (rfl : _ = Value.int _ _)
     | exact (rfl : _ = Value.slice _ _ _)))
     | ((with_reducible apply Zc); rfl; rfl; (first
     | exact (rfl : _ = Value.int _ _)
     | exact (rfl : _ = Value.slice _ _ _)))
     | ((with_reducible apply Zi); rfl; rfl; (exact (rfl : _ = Value.int _ _)); (exact (rfl : _ = Value.int _ _)); (first
     | with_reducible exact Zbv (by omega)
     | with_reducible exact Zde (by omega)
     | with_reducible exact Zb5 rfl (by omega) (by omega)))
     | ((with_reducible apply Za6); rfl; rfl; (exact (rfl : _ = Value.slice _ _ _)); (exact (rfl : _ = some (Value.int _ _))))
     | ((with_reducible apply Zv (hS)); rfl; rfl; rfl; rfl; rfl; (exact (rfl : _ = Value.int _ _)))
     | with_reducible refine Za ?_
     | with_reducible refine Zf ?_
     | with_reducible refine Ze ?_
     | with_reducible refine Z1 ?_
     | with_reducible refine Z0 ?_
     | with_reducible refine Zb ?_
     | with_reducible refine Zag ?_
     | ((with_reducible apply Zu); rfl)
     | ((with_reducible apply Zr); rfl))
    refine Zx ⟨⟨o + k, m - k, cap - k, i - k, f, dn ++ [Zm kk (sub ds (o) (k))]⟩, ⟨?_, ?_, ?_, ?_, ?_, ?_⟩, ?_, ?_⟩ <;> dsimp only
    ·omega
    ·omega
    ·omega
    ·rw [hl1]; omega
    ·omega
    ·rw [← h6]
     have hsl := Zau (ds := ds) (o := o) (m := m) h1
     conv => rhs; unfold Zfp
     rw [if_neg (by omega)]
     simp only [hsl, hk]
     rw [if_neg hik, Zmi (by omega), Zmh]
    ·omega
    ·refine Z2 (n := 2) rfl ?_ ?_ ?_
     ·refine ⟨.inr ⟨?_, rfl⟩, .inr ⟨?_, rfl⟩, .inl rfl, .inl rfl, .inl rfl, .inl rfl, .inr ⟨rfl, rfl⟩, trivial⟩
      ·rfl
      ·first | rfl | (show Value.int .i64 ((i - k : Nat) : Int) = Value.int .i64 ((i : Int) - k); congr 1; omega)
     ·exact congrArg (fun q => [dsR ds, ({ cells := q, sz := 32, wr := true, fix := false, mv := true, pur := true } : Blk)]) hcat
     ·simp [dsR, dsB]
  ·have hm1 : m = 1 := by omega
   have hdn : down = dn := by
    rw [← h6]
    cases f with
    | zero => rfl
    | succ f => unfold Zfp; rw [if_pos (by rw [Zau h1]; omega)]
   repeat (first
    | ((with_reducible apply Zab (e := [some (1, 0)]) (nid := 0) (Zj4 (G := G) false dn dn.length (by omega))); rfl; rfl; rfl; rfl; rfl; rfl; rfl; refine ⟨⟨⟨rfl, rfl, rfl, Nat.le_refl _, Nat.le_refl _⟩, trivial⟩, ⟨Zal rfl rfl rfl rfl, trivial⟩, rfl, rfl, rfl⟩; exact (rfl : _ = Value.tuple _); exact (rfl : _ = _ :: _))
    | ((with_reducible apply Zd); rfl; rfl; (exact (rfl : _ = Value.slice _ _ _)))
    | ((with_reducible apply Zc); rfl; rfl; (first
    | exact (rfl : _ = Value.int _ _)
    | exact (rfl : _ = Value.slice _ _ _)))
    | ((with_reducible apply Zi); rfl; rfl; (exact (rfl : _ = Value.int _ _)); (exact (rfl : _ = Value.int _ _)); (with_reducible exact Zcw (by omega)))
    | ((with_reducible apply Za6); rfl; rfl; (exact (rfl : _ = Value.slice _ _ _)); (exact (rfl : _ = some (Value.int _ _))))
    | with_reducible refine Za ?_
    | with_reducible refine Zf ?_
    | with_reducible refine Ze ?_
    | with_reducible refine Zbx ?_
    | with_reducible refine Zw ?_
    | with_reducible refine Zb ?_
    | with_reducible refine Zay ?_
    | with_reducible refine Zav ?_
    | ((with_reducible apply Zr); rfl)
    | ((with_reducible apply Za2); rfl))
   refine Zy ?_
   rw [hdn]
   refine Zo (v := .tuple #[slv 1 0 dn.length dn.length, Iv 0]) rfl rfl rfl ?_ ?_
   ·simp [Za1, dsR, dsB]
   ·exact ⟨⟨rfl, Nat.zero_add _ ▸ rfl, rfl, Nat.le_refl _, Nat.le_refl _⟩, rfl, trivial⟩
end Go.Flat
end
section
namespace Go.Flat
open Go.Proofs
variable {G : Glob}
end Go.Flat
end
section
namespace Go.Flat
open Go.Proofs
variable {G : Glob}
def Zd1 (kk : Nat → BitVec 32) (f : Nat) (l : List D) (m : Nat) (kn : Bool) (down : List D) : List D :=
  match f with
  | 0 => if kn then down else down ++ [Zm kk l]
  | f + 1 => if l.length ≤ m then (if kn then down else down ++ [Zm kk l]) else
      let k := (Zct l.length).toNat
      if m ≤ k then Zd1 kk f (l.take k) m kn (down ++ [Zm kk (l.drop k)]) else Zd1 kk f (l.drop k) (m - k) false (down ++ [Zm kk (l.take k)])
structure ConS where
  o : Nat
  m : Nat
  cap : Nat
  i : Nat
  kn : Bool
  f : Nat
  down : List D
set_option maxHeartbeats 8000000 in
theorem Zop (kk : Nat → BitVec 32) (hG : G 0 = some (Zaa w32 64 kk)) (hG1 : G 2 = some (Zaa u8N 64 dbF)) (ds : List D) (c i : Nat) (hn : ds.length ≤ 1000000) (hc : ds.length ≤ c) (hi1 : 1 ≤ i) (hi : i ≤ ds.length) :
  let down := Zd1 kk ds.length ds i true []
  Zac Tryd.prog G 13 [slv 0 0 ds.length c, Iv (i : Nat)] [dsR ds] (.tuple #[slv 1 0 down.length down.length, Iv 0]) [dsR ds, dsB (Zjq down (down.length / 2))] := by
 intro down
 refine Zb8 (fn := Tryd.f13) (nt := 62) rfl rfl rfl rfl ?_
 repeat (first
  | ((with_reducible apply Zd); rfl; rfl; (first
  | exact (rfl : _ = Value.int _ _)
  | exact (rfl : _ = Value.bool _)
  | exact (rfl : _ = Value.slice _ _ _)))
  | ((with_reducible apply Zc); rfl; rfl; (first
  | exact (rfl : _ = Value.int _ _)
  | exact (rfl : _ = Value.bool _)
  | exact (rfl : _ = Value.slice _ _ _)))
  | ((with_reducible apply Zi); rfl; rfl; (exact (rfl : _ = Value.int _ _)); (exact (rfl : _ = Value.int _ _)); (first
  | with_reducible exact Zbv (by omega)
  | with_reducible exact Zcw (by omega)
  | with_reducible exact Zfc (by omega)))
  | ((with_reducible apply Zp); rfl; rfl; (exact (rfl : _ = some (Value.bool _))))
  | ((with_reducible apply Za6); rfl; rfl; (exact (rfl : _ = Value.slice _ _ _)); (exact (rfl : _ = some (Value.int _ _))))
  | with_reducible refine Za ?_
  | with_reducible refine Zf ?_
  | with_reducible refine Ze ?_
  | with_reducible refine Z1 ?_
  | with_reducible refine Z0 ?_
  | with_reducible refine Zb ?_
  | ((with_reducible apply Zr); rfl))
 refine Zc8 (Zb2.nilTmp (i := 6) (b := 1) true 32 rfl (by decide) rfl) ?_
 refine Zby (fun x : ConS => [slv 0 (x.o * 32) x.m x.cap, Iv (x.i : Nat), dead, dead, dead, dead, slv 1 0 x.down.length x.down.length, .bool x.kn]) (fun x => [dsR ds, dsB x.down])
  (fun x => x.o + x.m ≤ ds.length ∧ x.m ≤ x.cap ∧ x.i ≤ x.m ∧ 1 ≤ x.i ∧ x.down.length + x.m ≤ ds.length ∧ x.m ≤ x.f + 1 ∧ Zd1 kk x.f (sub ds x.o x.m) x.i x.kn x.down = down) (fun x => x.m) ⟨0, ds.length, c, i, true, ds.length, []⟩ ⟨by simp, hc, hi, hi1, by simp, by simp, by rw [Zyb]⟩ ?_ ?_
 ·refine Z2 (n := 2) rfl ?_ rfl ?_
  repeat (first | exact trivial | refine ⟨.inl rfl, ?_⟩ | refine ⟨.inr ⟨rfl, rfl⟩, ?_⟩)
  ·simp [dsR, dsB]
 ·rintro ⟨o, m, cap, i, kn, f, dn⟩ ⟨h1, h2, h3, h7, h4, h5, h6⟩
  dsimp only at h1 h2 h3 h4 h5 h6 h7 ⊢
  have hDc : (dsB dn).cells.length = dn.length * 32 := Zat dn
  by_cases hm : i < m
  ·obtain ⟨s1, s2, s3⟩ := Zdt (n := m) (by omega)
   have hS := Zil (G := G) (m : Int) (by omega)
   rw [s3] at hS
   generalize hk : (Zct (m : Int)).toNat = k at hS s1 s2
   by_cases hik : i ≤ k
   ·have hR := Zln (G := G) kk hG hG1 (sub ds (o + k) (m - k)) (cap - k) (by rw [Zau (by omega)]; omega) (by rw [Zau (by omega)]; omega)
    rw [Zau (by omega)] at hR
    have hE1 : (o + k) * 32 + (dsR (sub ds (o + k) (m - k))).cells.length ≤ (dsR ds).cells.length := by
     show _ + (dsC _).length ≤ (dsC _).length
     rw [Zat, Zat, Zau (by omega)]; omega
    have hE2 : ((dsR ds).cells.drop ((o + k) * 32)).take (dsR (sub ds (o + k) (m - k))).cells.length = Zb7 [some (0, (o + k) * 32)] (dsR (sub ds (o + k) (m - k))) := by
     show ((dsC ds).drop ((o + k) * 32)).take (dsC (sub ds (o + k) (m - k))).length = dsC (sub ds (o + k) (m - k))
     rw [Zat, Zau (by omega)]
     exact Zkq (by omega)
    have hcat : List.take (dn.length * 32) (List.drop 0 (dsC dn)) ++ Zaa w8 32 (Zm kk (sub ds (o + k) (m - k))) = dsC (dn ++ [Zm kk (sub ds (o + k) (m - k))]) := by
     rw [List.drop_zero, List.take_of_length_le (by rw [Zat]; exact Nat.le_refl _), Zgj, Zfa]; simp [dsC]
    have hl1 : (dn ++ [Zm kk (sub ds (o + k) (m - k))]).length = dn.length + 1 := by simp
    obtain ⟨f, rfl⟩ : ∃ f', f = f' + 1 := ⟨f - 1, by omega⟩
    refine Zah 1 (H' := [dsR ds, dsB dn, hole]) rfl ?_
    repeat (first
     | ((with_reducible apply Zci); rfl; rfl; exact (rfl : _ = Value.slice (some ⟨_, _, _⟩) _ _); rfl; rfl; first | exact Zgt (h := k) rfl rfl rfl (by omega) rfl | exact Zhn (l := k) (sz := 32) (j := (o + k) * 32) (m := m - k) (c' := cap - k) rfl rfl rfl rfl (by omega) (by omega) rfl (by omega) (by omega) (by omega))
     | ((with_reducible apply Zab (e := [some (0, (o + k) * 32)]) (nid := 0) hR); rfl; rfl; rfl; rfl; rfl; rfl; rfl; refine ⟨⟨⟨rfl, rfl, rfl, Nat.le_refl _, by omega⟩, trivial⟩, ⟨Zbu rfl rfl hE1 hE2, trivial⟩, rfl, rfl, rfl⟩; exact (rfl : _ = Value.agg _); exact (rfl : _ = _ :: _))
     | ((with_reducible apply Zdd (nid := 2)); rfl; rfl; rfl; exact (rfl : _ = some (Value.slice _ _ _, _)); exact (rfl : _ = _ :: _))
     | ((with_reducible apply Za5); rfl; rfl; rfl; exact .inl ⟨_, rfl⟩; exact (rfl : _ = Value.slice (some ⟨_, _, _⟩) _ _); exact (rfl : _ = Value.slice (some ⟨_, _, _⟩) _ _); exact Zcy (n' := (dn ++ [Zm kk (sub ds (o + k) (m - k))]).length) (rfl : _ = some (32, _, 32)) (rfl : _ = some (1, _)) rfl rfl rfl rfl rfl (by rw [hDc]; omega) (by decide) hl1.symm (by omega); rfl; exact (rfl : _ = _ :: _))
     | ((with_reducible apply Zd); rfl; rfl; (first
     | exact (rfl : _ = Value.int _ _)
     | exact (rfl : _ = Value.slice _ _ _)))
     | ((with_reducible apply Zc); rfl; rfl; (first
     | exact (rfl : _ = Value.int _ _)
     | exact (rfl : _ = Value.slice _ _ _)))
     | ((with_reducible apply Zi); rfl; rfl; (exact (rfl : _ = Value.int _ _)); (exact (rfl : _ = Value.int _ _)); (first
     | with_reducible exact Zcv (by omega)
     | with_reducible exact Zre (by omega)))
     | ((with_reducible apply Za6); rfl; rfl; (exact (rfl : _ = Value.slice _ _ _)); (exact (rfl : _ = some (Value.int _ _))))
     | ((with_reducible apply Zv (hS)); rfl; rfl; rfl; rfl; rfl; (exact (rfl : _ = Value.int _ _)))
     | with_reducible refine Za ?_
     | with_reducible refine Zf ?_
     | with_reducible refine Ze ?_
     | with_reducible refine Z1 ?_
     | with_reducible refine Z0 ?_
     | with_reducible refine Zb ?_
     | with_reducible refine Zag ?_
     | ((with_reducible apply Zu); rfl))
    refine Zx ⟨⟨o, k, cap, i, kn, f, dn ++ [Zm kk (sub ds (o + k) (m - k))]⟩, ⟨?_, ?_, ?_, ?_, ?_, ?_, ?_⟩, ?_, ?_⟩ <;> dsimp only
    ·omega
    ·omega
    ·omega
    ·omega
    ·rw [hl1]; omega
    ·omega
    ·rw [← h6]
     have hsl := Zau (ds := ds) (o := o) (m := m) h1
     conv => rhs; unfold Zd1
     rw [if_neg (by omega)]
     simp only [hsl, hk]
     rw [if_pos hik, Zmi (by omega), Zmh]
    ·omega
    ·refine Z2 (n := 2) rfl ?_ ?_ ?_
     ·refine ⟨.inr ⟨?_, rfl⟩, .inr ⟨?_, rfl⟩, .inl rfl, .inl rfl, .inl rfl, .inl rfl, .inr ⟨rfl, rfl⟩, .inr ⟨rfl, rfl⟩, trivial⟩
      ·rfl
      ·first | rfl | (show Value.int .i64 ((i - k : Nat) : Int) = Value.int .i64 ((i : Int) - k); congr 1; omega)
     ·exact congrArg (fun q => [dsR ds, ({ cells := q, sz := 32, wr := true, fix := false, mv := true, pur := true } : Blk)]) hcat
     ·simp [dsR, dsB]
   ·have hR := Zln (G := G) kk hG hG1 (sub ds (o) (k)) (cap) (by rw [Zau (by omega)]; omega) (by rw [Zau (by omega)]; omega)
    rw [Zau (by omega)] at hR
    have hE1 : (o) * 32 + (dsR (sub ds (o) (k))).cells.length ≤ (dsR ds).cells.length := by
     show _ + (dsC _).length ≤ (dsC _).length
     rw [Zat, Zat, Zau (by omega)]; omega
    have hE2 : ((dsR ds).cells.drop ((o) * 32)).take (dsR (sub ds (o) (k))).cells.length = Zb7 [some (0, (o) * 32)] (dsR (sub ds (o) (k))) := by
     show ((dsC ds).drop ((o) * 32)).take (dsC (sub ds (o) (k))).length = dsC (sub ds (o) (k))
     rw [Zat, Zau (by omega)]
     exact Zkq (by omega)
    have hcat : List.take (dn.length * 32) (List.drop 0 (dsC dn)) ++ Zaa w8 32 (Zm kk (sub ds (o) (k))) = dsC (dn ++ [Zm kk (sub ds (o) (k))]) := by
     rw [List.drop_zero, List.take_of_length_le (by rw [Zat]; exact Nat.le_refl _), Zgj, Zfa]; simp [dsC]
    have hl1 : (dn ++ [Zm kk (sub ds (o) (k))]).length = dn.length + 1 := by simp
    obtain ⟨f, rfl⟩ : ∃ f', f = f' + 1 := ⟨f - 1, by omega⟩
    refine Zah 1 (H' := [dsR ds, dsB dn, hole]) rfl ?_
    repeat (first
     | ((with_reducible apply Zci); rfl; rfl; exact (rfl : _ = Value.slice (some ⟨_, _, _⟩) _ _); rfl; rfl; first | exact Zgt (h := k) rfl rfl rfl (by omega) rfl | exact Zhn (l := k) (sz := 32) (j := (o + k) * 32) (m := m - k) (c' := cap - k) rfl rfl rfl rfl (by omega) (by omega) rfl (by omega) (by omega) (by omega))
     | ((with_reducible apply Zab (e := [some (0, (o) * 32)]) (nid := 0) hR); rfl; rfl; rfl; rfl; rfl; rfl; rfl; refine ⟨⟨⟨rfl, rfl, rfl, Nat.le_refl _, by omega⟩, trivial⟩, ⟨Zbu rfl rfl hE1 hE2, trivial⟩, rfl, rfl, rfl⟩; exact (rfl : _ = Value.agg _); exact (rfl : _ = _ :: _))
     | ((with_reducible apply Zdd (nid := 2)); rfl; rfl; rfl; exact (rfl : _ = some (Value.slice _ _ _, _)); exact (rfl : _ = _ :: _))
     | ((with_reducible apply Za5); rfl; rfl; rfl; exact .inl ⟨_, rfl⟩; exact (rfl : _ = Value.slice (some ⟨_, _, _⟩) _ _); exact (rfl : _ = Value.slice (some ⟨_, _, _⟩) _ _); exact Zcy (n' := (dn ++ [Zm kk (sub ds (o) (k))]).length) (rfl : _ = some (32, _, 32)) (rfl : _ = some (1, _)) rfl rfl rfl rfl rfl (by rw [hDc]; omega) (by decide) hl1.symm (by omega); rfl; exact (rfl : _ = _ :: _))
     | ((with_reducible apply Zd); rfl; rfl; (first
     | exact (rfl : _ = Value.int _ _)
     | exact (rfl : _ = Value.slice _ _ _)))
     | ((with_reducible apply Zc); rfl; rfl; (first
     | exact (rfl : _ = Value.int _ _)
     | exact (rfl : _ = Value.bool _)
     | exact (rfl : _ = Value.slice _ _ _)))
     | ((with_reducible apply Zi); rfl; rfl; (exact (rfl : _ = Value.int _ _)); (exact (rfl : _ = Value.int _ _)); (first
     | with_reducible exact Zcv (by omega)
     | with_reducible exact Zrd (by omega)
     | with_reducible exact Zb5 rfl (by omega) (by omega)))
     | ((with_reducible apply Za6); rfl; rfl; (exact (rfl : _ = Value.slice _ _ _)); (exact (rfl : _ = some (Value.int _ _))))
     | ((with_reducible apply Zv (hS)); rfl; rfl; rfl; rfl; rfl; (exact (rfl : _ = Value.int _ _)))
     | with_reducible refine Za ?_
     | with_reducible refine Zf ?_
     | with_reducible refine Ze ?_
     | with_reducible refine Z1 ?_
     | with_reducible refine Z0 ?_
     | with_reducible refine Zb ?_
     | with_reducible refine Zag ?_
     | ((with_reducible apply Zu); rfl)
     | ((with_reducible apply Zr); rfl))
    refine Zx ⟨⟨o + k, m - k, cap - k, i - k, false, f, dn ++ [Zm kk (sub ds (o) (k))]⟩, ⟨?_, ?_, ?_, ?_, ?_, ?_, ?_⟩, ?_, ?_⟩ <;> dsimp only
    ·omega
    ·omega
    ·omega
    ·omega
    ·rw [hl1]; omega
    ·omega
    ·rw [← h6]
     have hsl := Zau (ds := ds) (o := o) (m := m) h1
     conv => rhs; unfold Zd1
     rw [if_neg (by omega)]
     simp only [hsl, hk]
     rw [if_neg hik, Zmi (by omega), Zmh]
    ·omega
    ·refine Z2 (n := 2) rfl ?_ ?_ ?_
     ·refine ⟨.inr ⟨?_, rfl⟩, .inr ⟨?_, rfl⟩, .inl rfl, .inl rfl, .inl rfl, .inl rfl, .inr ⟨rfl, rfl⟩, .inr ⟨rfl, rfl⟩, trivial⟩
      ·rfl
      ·first | rfl | (show Value.int .i64 ((i - k : Nat) : Int) = Value.int .i64 ((i : Int) - k); congr 1; omega)
     ·exact congrArg (fun q => [dsR ds, ({ cells := q, sz := 32, wr := true, fix := false, mv := true, pur := true } : Blk)]) hcat
     ·simp [dsR, dsB]
  ·have hm1 : m = i := by omega
   have hdn : down = if kn then dn else dn ++ [Zm kk (sub ds o m)] := by
    rw [← h6]
    cases f with
    | zero => rfl
    | succ f => unfold Zd1; rw [if_pos (by rw [Zau h1]; omega)]
   cases kn with
   | true =>
    have hdn' : down = dn := hdn
    repeat (first
     | ((with_reducible apply Zab (e := [some (1, 0)]) (nid := 0) (Zj4 (G := G) false dn dn.length (by omega))); rfl; rfl; rfl; rfl; rfl; rfl; rfl; refine ⟨⟨⟨rfl, rfl, rfl, Nat.le_refl _, Nat.le_refl _⟩, trivial⟩, ⟨Zal rfl rfl rfl rfl, trivial⟩, rfl, rfl, rfl⟩; exact (rfl : _ = Value.tuple _); exact (rfl : _ = _ :: _))
     | ((with_reducible apply Zd); rfl; rfl; (first
     | exact (rfl : _ = Value.int _ _)
     | exact (rfl : _ = Value.bool _)
     | exact (rfl : _ = Value.slice _ _ _)))
     | ((with_reducible apply Zc); rfl; rfl; (first
     | exact (rfl : _ = Value.int _ _)
     | exact (rfl : _ = Value.slice _ _ _)))
     | ((with_reducible apply Zi); rfl; rfl; (exact (rfl : _ = Value.int _ _)); (exact (rfl : _ = Value.int _ _)); (with_reducible exact Zbv (by omega)))
     | ((with_reducible apply Zhl); rfl; rfl; (exact (rfl : _ = Value.bool _)); (exact Zdu))
     | ((with_reducible apply Za6); rfl; rfl; (exact (rfl : _ = Value.slice _ _ _)); (exact (rfl : _ = some (Value.int _ _))))
     | with_reducible refine Za ?_
     | with_reducible refine Zf ?_
     | with_reducible refine Ze ?_
     | with_reducible refine Z0 ?_
     | with_reducible refine Zbx ?_
     | with_reducible refine Zw ?_
     | with_reducible refine Zb ?_
     | with_reducible refine Zay ?_
     | with_reducible refine Zav ?_
     | ((with_reducible apply Zr); rfl)
     | ((with_reducible apply Za2); rfl))
    refine Zy ?_
    rw [hdn']
    refine Zo (v := .tuple #[slv 1 0 dn.length dn.length, Iv 0]) rfl rfl rfl ?_ ?_
    ·simp [Za1, dsR, dsB]
    ·exact ⟨⟨rfl, Nat.zero_add _ ▸ rfl, rfl, Nat.le_refl _, Nat.le_refl _⟩, rfl, trivial⟩
   | false =>
    have hdn' : down = dn ++ [Zm kk (sub ds o m)] := hdn
    have hR := Zln (G := G) kk hG hG1 (sub ds o m) cap (by rw [Zau (by omega)]; omega) (by rw [Zau (by omega)]; omega)
    rw [Zau (by omega)] at hR
    have hE1 : (o) * 32 + (dsR (sub ds (o) (m))).cells.length ≤ (dsR ds).cells.length := by
     show _ + (dsC _).length ≤ (dsC _).length
     rw [Zat, Zat, Zau (by omega)]; omega
    have hE2 : ((dsR ds).cells.drop ((o) * 32)).take (dsR (sub ds (o) (m))).cells.length = Zb7 [some (0, (o) * 32)] (dsR (sub ds (o) (m))) := by
     show ((dsC ds).drop ((o) * 32)).take (dsC (sub ds (o) (m))).length = dsC (sub ds (o) (m))
     rw [Zat, Zau (by omega)]
     exact Zkq (by omega)
    have hcat : List.take (dn.length * 32) (List.drop 0 (dsC dn)) ++ Zaa w8 32 (Zm kk (sub ds (o) (m))) = dsC (dn ++ [Zm kk (sub ds (o) (m))]) := by
     rw [List.drop_zero, List.take_of_length_le (by rw [Zat]; exact Nat.le_refl _), Zgj, Zfa]; simp [dsC]
    have hl1 : (dn ++ [Zm kk (sub ds (o) (m))]).length = dn.length + 1 := by simp
    refine Zah 1 (H' := [dsR ds, dsB dn, hole]) rfl ?_
    repeat (first
     | ((with_reducible apply Zab (e := [some (0, (o) * 32)]) (nid := 0) hR); rfl; rfl; rfl; rfl; rfl; rfl; rfl; refine ⟨⟨⟨rfl, rfl, rfl, Nat.le_refl _, by omega⟩, trivial⟩, ⟨Zbu rfl rfl hE1 hE2, trivial⟩, rfl, rfl, rfl⟩; exact (rfl : _ = Value.agg _); exact (rfl : _ = _ :: _))
     | ((with_reducible apply Zdd (nid := 2)); rfl; rfl; rfl; exact (rfl : _ = some (Value.slice _ _ _, _)); exact (rfl : _ = _ :: _))
     | ((with_reducible apply Zd); rfl; rfl; (first
     | exact (rfl : _ = Value.int _ _)
     | exact (rfl : _ = Value.bool _)
     | exact (rfl : _ = Value.slice _ _ _)))
     | ((with_reducible apply Zi); rfl; rfl; (exact (rfl : _ = Value.int _ _)); (exact (rfl : _ = Value.int _ _)); (with_reducible exact Zbv (by omega)))
     | ((with_reducible apply Zhl); rfl; rfl; (exact (rfl : _ = Value.bool _)); (exact Zdu))
     | ((with_reducible apply Za6); rfl; rfl; (exact (rfl : _ = Value.slice _ _ _)); (exact (rfl : _ = some (Value.int _ _))))
     | with_reducible refine Za ?_
     | with_reducible refine Zf ?_
     | with_reducible refine Ze ?_
     | with_reducible refine Zbx ?_
     | with_reducible refine Zb ?_
     | with_reducible refine Zay ?_
     | with_reducible refine Zav ?_
     | ((with_reducible apply Zu); rfl)
     | ((with_reducible apply Zr); rfl)
     | ((with_reducible apply Za2); rfl))
    iterate 4 (first
     | ((with_reducible apply Za5); rfl; rfl; rfl; exact .inl ⟨_, rfl⟩; exact (rfl : _ = Value.slice (some ⟨_, _, _⟩) _ _); exact (rfl : _ = Value.slice (some ⟨_, _, _⟩) _ _); exact Zcy (n' := (dn ++ [Zm kk (sub ds (o) (m))]).length) (rfl : _ = some (32, _, 32)) (rfl : _ = some (1, _)) rfl rfl rfl rfl rfl (by rw [hDc]; omega) (by decide) hl1.symm (by omega); rfl; exact (rfl : _ = _ :: _))
     | ((with_reducible apply Zc); rfl; rfl; (exact (rfl : _ = Value.slice _ _ _)))
     | with_reducible refine Za ?_
     | with_reducible refine Zb ?_)
    refine Zc8 (s' := ⟨Tl [slv 0 (o * 32) m cap, Iv (i : Nat), dead, dead, dead, dead, slv 1 0 (dn ++ [Zm kk (sub ds o m)]).length (dn ++ [Zm kk (sub ds o m)]).length], [dsR ds, dsB (dn ++ [Zm kk (sub ds o m)])]⟩) ?_ ?_
    ·refine Z2 (n := 2) rfl ?_ ?_ ?_
     repeat (first | exact trivial | refine ⟨.inl rfl, ?_⟩ | refine ⟨.inr ⟨rfl, rfl⟩, ?_⟩)
     ·exact congrArg (fun q => [dsR ds, ({ cells := q, sz := 32, wr := true, fix := false, mv := true, pur := true } : Blk)]) hcat
     ·simp [dsR, dsB]
    generalize hdn2 : dn ++ [Zm kk (sub ds o m)] = dn2 at hl1
    repeat (first
     | ((with_reducible apply Zab (e := [some (1, 0)]) (nid := 0) (Zj4 (G := G) false dn2 dn2.length (by omega))); rfl; rfl; rfl; rfl; rfl; rfl; rfl; refine ⟨⟨⟨rfl, rfl, rfl, Nat.le_refl _, Nat.le_refl _⟩, trivial⟩, ⟨Zal rfl rfl rfl rfl, trivial⟩, rfl, rfl, rfl⟩; exact (rfl : _ = Value.tuple _); exact (rfl : _ = _ :: _))
     | ((with_reducible apply Zd); rfl; rfl; (exact (rfl : _ = Value.slice _ _ _)))
     | ((with_reducible apply Zc); rfl; rfl; (first
     | exact (rfl : _ = Value.int _ _)
     | exact (rfl : _ = Value.slice _ _ _)))
     | with_reducible refine Za ?_
     | with_reducible refine Zf ?_
     | with_reducible refine Ze ?_
     | with_reducible refine Zw ?_
     | with_reducible refine Zb ?_)
    refine Zy ?_
    rw [hdn', hdn2]
    refine Zo (v := .tuple #[slv 1 0 dn2.length dn2.length, Iv 0]) rfl rfl rfl ?_ ?_
    ·simp [Za1, dsR, dsB]
    ·exact ⟨⟨rfl, Nat.zero_add _ ▸ rfl, rfl, Nat.le_refl _, Nat.le_refl _⟩, rfl, trivial⟩
end Go.Flat
end
section
namespace Go.Flat
open Go.Proofs
variable {G : Glob}
end Go.Flat
end
section
namespace Go.Flat
open Go.Proofs
variable {G : Glob}
def dg1 (k : Nat) : D := fun i => if i = 0 then BitVec.ofNat 8 k else 0
theorem Zce (ds : List D) : ((dsC ds).drop 0).take (dsC ds).length = dsC ds := by simp
theorem Z6k {H : List Blk} {e : Emb} {id : Nat} {ds : List D} (hB : H[id]? = some (dsB ds)) : Zc0 H e (some (id, 0)) (dsR ds) :=
 Zbu hB rfl (by show 0 + (dsC _).length ≤ (dsC _).length; omega) (Zce _)
theorem Zwe (n : Nat) (a : D) : Zbm n a a = true := by simp [Zbm]
end Go.Flat
end
