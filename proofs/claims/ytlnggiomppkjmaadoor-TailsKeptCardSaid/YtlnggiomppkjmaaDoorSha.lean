/- Walks. -/
import Derived.Test.YtlnggiomppkjmaaDoorFlatC
import Derived.Test.YtlnggiomppkjmaaDoorProg
set_option maxRecDepth 20000
set_option linter.unusedVariables false
set_option linter.unusedSimpArgs false
section
namespace Go.Flat
open Go.Proofs
variable {G : Glob}
def rot (x : BitVec 32) (n : Nat) : BitVec 32 := x <<< n ||| x >>> (32 - n)

theorem Z2t (k : Int) : (BitVec.ofInt 64 k &&& BitVec.ofInt 64 31).toNat = (k % 32).toNat := by
 have h31 : (BitVec.ofInt 64 31).toNat = 2 ^ 5 - 1 := rfl
 rw [BitVec.toNat_and, h31, Nat.and_two_pow_sub_one_eq_mod, BitVec.toNat_ofInt]
 omega
theorem Zv4 (x : BitVec 32) (k : Int) : Z4 Tryd.prog G 78 [w32 x, Iv k] [] (w32 (rot x (k % 32).toNat)) [] := by
 refine Zbd (fn := Tryd.f78) (nt := 17) rfl rfl rfl rfl ?_
 repeat (first
  | ((with_reducible apply Zci); rfl; rfl; (exact (rfl : _ = Value.int _ _)))
  | ((with_reducible apply Zc5); rfl; rfl; (exact (rfl : _ = Value.int _ _)))
  | ((with_reducible apply Zl); rfl; rfl; (exact (rfl : _ = Value.int _ _)); (exact (rfl : _ = Value.int _ _)); (first
  | with_reducible exact Z44 (by first | exact ofI _ _ | rfl) (by first | exact ofI _ _ | rfl)
  | with_reducible exact Z23 (by first | exact ofI _ _ | rfl) (by omega)
  | with_reducible exact Z0a (by omega)
  | with_reducible exact Z2u (by first | exact ofI _ _ | rfl) (by first | exact ofI _ _ | rfl)
  | with_reducible exact Z5e (by first | exact ofI _ _ | rfl) (by first | exact ofI _ _ | rfl)))
  | ((with_reducible apply Zf9); rfl; rfl; (exact (rfl : _ = Value.int _ _)); (exact Ztw rfl rfl (by first | exact Zla _ | rfl)))
  | with_reducible refine Za ?_
  | with_reducible refine Zg ?_
  | with_reducible refine Ze ?_
  | with_reducible refine Zr ?_
  | with_reducible refine Zb ?_)
 refine Zs ?_
 refine Zkc (v := .int _ _) rfl rfl ?_
 have h2 : (BitVec.ofInt 64 32 - (BitVec.ofInt 64 k &&& BitVec.ofInt 64 31)).toNat = 32 - (k % 32).toNat := by
  have h3 := Z2t k
  have h32 : (BitVec.ofInt 64 32).toNat = 32 := rfl
  rw [BitVec.toNat_sub, h3, h32]
  omega
 simp only [Int.toNat_natCast, h2, Z2t, rot]
def Zot (x : BitVec 32) (a b : Int) (z : BitVec 32) : BitVec 32 := rot x ((0 - a) % 32).toNat ^^^ rot x ((0 - b) % 32).toNat ^^^ z
theorem Zlo (x : BitVec 32) (a b : Int) (z : BitVec 32) (ha : 0 ≤ a ∧ a ≤ 32) (hb : 0 ≤ b ∧ b ≤ 32) : Z4 Tryd.prog G 77 [w32 x, Iv a, Iv b, w32 z] [] (w32 (Zot x a b z)) [] := by
 refine Zbd (fn := Tryd.f77) (nt := 20) rfl rfl rfl rfl ?_
 repeat (first
  | ((with_reducible apply Zci); rfl; rfl; (exact (rfl : _ = Value.int _ _)))
  | ((with_reducible apply Zc5); rfl; rfl; (exact (rfl : _ = Value.int _ _)))
  | ((with_reducible apply Zl); rfl; rfl; (exact (rfl : _ = Value.int _ _)); (exact (rfl : _ = Value.int _ _)); (with_reducible exact Z27 (by first | exact ofI _ _ | rfl) (by first | exact ofI _ _ | rfl)))
  | ((with_reducible apply Zgz); rfl; rfl; (exact (rfl : _ = Value.int _ _)); (exact Z4k rfl (by omega) (by omega)))
  | ((with_reducible apply Zq (Zv4 _ _)); rfl; rfl; rfl; rfl; rfl; (exact (rfl : _ = Value.int _ _)))
  | with_reducible refine Za ?_
  | with_reducible refine Zg ?_
  | with_reducible refine Ze ?_
  | with_reducible refine Zr ?_
  | with_reducible refine Zb ?_)
 refine Zs ?_
 exact Zkc (v := .int _ _) rfl rfl rfl
end Go.Flat
end
section
namespace Go.Flat
open Go.Proofs
variable {G : Glob}
def inB (w : Nat → BitVec 32) (i : Nat) (x : BitVec 8) : Nat → BitVec 32 := Zg4 w (i / 4) (w (i / 4) <<< 8 ||| x.setWidth 32)
def Zmy (b : Nat → BitVec 8) : Nat → Nat → BitVec 32
  | 0 => fun _ => 0
  | i + 1 => inB (Zmy b i) i (b i)
def Z5a (k : BitVec 32) (v w : Nat → BitVec 32) (t : Nat) : BitVec 32 := v 7 + Zot (v 4) 6 11 (rot (v 4) ((-25 : Int) % 32).toNat) + (v 6 ^^^ (v 4 &&& (v 5 ^^^ v 6))) + k + w (t % 16)
def Z5b (v : Nat → BitVec 32) : BitVec 32 := Zot (v 0) 2 13 (rot (v 0) ((-22 : Int) % 32).toNat) + ((v 0 &&& v 1) ^^^ (v 0 &&& v 2) ^^^ (v 1 &&& v 2))
def Z22 (p q : BitVec 32) (v : Nat → BitVec 32) : Nat → BitVec 32 := fun k => if k = 0 then p + q else if k = 4 then v 3 + p else v (k - 1)
def Z5c (w : Nat → BitVec 32) (t : Nat) : Nat → BitVec 32 := Zg4 w (t % 16) (w (t % 16) + (w ((t + 9) % 16) + Zot (w ((t + 1) % 16)) 7 18 (w ((t + 1) % 16) >>> 3) + Zot (w ((t + 14) % 16)) 17 19 (w ((t + 14) % 16) >>> 10)))
def Zs5 (kk : Nat → BitVec 32) (v w : Nat → BitVec 32) : Nat → (Nat → BitVec 32) × (Nat → BitVec 32)
  | 0 => (v, w)
  | t + 1 => let p := Zs5 kk v w t; (Z22 (Z5a (kk t) p.1 p.2 t) (Z5b p.1) p.1, Z5c p.2 t)
def Zx2 (v V : Nat → BitVec 32) : Nat → Nat → BitVec 32
  | 0 => v
  | i + 1 => Zg4 (Zx2 v V i) i (Zx2 v V i i + V i)
def Z4h (kk : Nat → BitVec 32) (v : Nat → BitVec 32) (b : Nat → BitVec 8) : Nat → BitVec 32 := Zx2 v (Zs5 kk v (Zmy b 64) 64).1 8

abbrev pt (b o : Nat) : Value := .pointer (some ⟨b, o, none⟩)
abbrev sl (b o n c : Nat) : Value := .slice (some ⟨b, o, none⟩) n c
def stB (v : Nat → BitVec 32) (r n : Value) : Blk := { cells := Zag w32 8 v ++ [r, n], sz := 10, wr := true, fix := true, mv := false, pur := false }
def byB (n : Nat) (b : Nat → BitVec 8) : Blk := { cells := Zag w8 n b, sz := 1, wr := false, fix := false, mv := true, pur := true }
def wB (w : Nat → BitVec 32) : Blk := { cells := Zag w32 16 w, sz := 16, wr := true, fix := true, mv := false, pur := true }
def vB (v : Nat → BitVec 32) : Blk := { cells := Zag w32 8 v, sz := 8, wr := true, fix := true, mv := false, pur := true }

set_option maxHeartbeats 4000000 in
theorem Zz6 (kk : Nat → BitVec 32) (hG : G 0 = some (Zag w32 64 kk)) (v : Nat → BitVec 32) (b : Nat → BitVec 8) (m c c' : Nat) (n : BitVec 64) :
  Z4 Tryd.prog G 69 [pt 0 0, sl 1 0 64 c'] [stB v (sl 1 0 m c) (w64 n), byB 64 b] (.tuple #[]) [stB (Z4h kk v b) (sl 1 0 m c) (w64 n), byB 64 b] := by
 refine Zbd (fn := Tryd.f69) (nt := 156) rfl rfl rfl rfl ?_
 refine Zae 2 (H' := [stB v (sl 1 0 m c) (w64 n), byB 64 b, hole, hole]) rfl ?_
 repeat (first
  | ((with_reducible apply Zci); rfl; rfl; (first
  | exact (rfl : _ = Value.int _ _)
  | exact (rfl : _ = Value.slice _ _ _)))
  | ((with_reducible apply Zis); rfl; rfl; (exact (rfl : _ = Value.slice _ _ _)); (exact (rfl : _ = some (Value.int _ _))))
  | ((with_reducible apply Zes (nid := 2)); rfl; rfl; rfl; exact (rfl : _ = _ :: _))
  | with_reducible refine Za ?_
  | with_reducible refine Zg ?_
  | with_reducible refine Ze ?_
  | with_reducible refine Z7 ?_
  | with_reducible refine Zb ?_)
 refine Zb2 (fun i => [pt 0 0, sl 1 0 64 c', dead, dead, pt 2 0] ++ List.replicate 13 dead ++ [sl 1 0 64 c', Iv 64, Iv (i : Nat)]) (fun i : Nat => [stB v (sl 1 0 m c) (w64 n), byB 64 b, wB (Zmy b i), hole]) (fun i => i ≤ 64) (fun i => 64 - i) 0 (by omega) ?_ ?_
 ·refine Zah (n := 4) rfl ?_ rfl ?_
  repeat (first | exact trivial | refine ⟨.inl rfl, ?_⟩ | refine ⟨.inr ⟨rfl, rfl⟩, ?_⟩)
  ·rfl
 ·intro i hi
  by_cases hlt : i < 64
  repeat (first
   | ((with_reducible apply Zdi (j := i / 4)); rfl; rfl; exact (rfl : _ = Value.pointer (some ⟨_, _, _⟩)); (exact (rfl : _ = Value.int _ _)); (exact (rfl : _ = some (_, 1))); omega; omega; omega)
   | ((with_reducible apply Zb1 (j := i)); rfl; rfl; exact (rfl : _ = Value.slice (some ⟨_, _, _⟩) _ _); (exact (rfl : _ = Value.int _ _)); (exact (rfl : _ = some (_, 1))); omega; omega; omega)
   | ((with_reducible apply Zci); rfl; rfl; (exact (rfl : _ = Value.int _ _)))
   | ((with_reducible apply Zc5); rfl; rfl; (exact (rfl : _ = Value.int _ _)))
   | ((with_reducible apply Zl); rfl; rfl; (exact (rfl : _ = Value.int _ _)); (exact (rfl : _ = Value.int _ _)); (first
   | with_reducible exact Zc0 (by omega)
   | with_reducible exact Zan rfl (by omega) (by omega)
   | with_reducible exact Z44 (by first | exact ofI _ _ | rfl) (by first | exact ofI _ _ | rfl)
   | with_reducible exact Z23 (by first | exact ofI _ _ | rfl) (by omega)
   | with_reducible exact Z2z (by omega) (by omega) (by omega)))
   | ((with_reducible apply Zf9); rfl; rfl; (exact (rfl : _ = Value.int _ _)); (exact Z3i rfl rfl (by first | exact Zla _ | rfl)))
   | ((with_reducible apply Zaj); rfl; rfl; exact (rfl : _ = Value.pointer (some ⟨_, _, _⟩)); (exact Zpx rfl rfl rfl (by omega) (fun _ => rfl)))
   | ((with_reducible apply Zcv); rfl; exact (rfl : _ = Value.pointer (some ⟨_, _, _⟩)); (exact (rfl : _ = Value.int _ _)); (exact Zg2 rfl rfl rfl rfl rfl (by omega) rfl rfl); exact (rfl : _ = _ :: _))
   | with_reducible refine Za ?_
   | with_reducible refine Zg ?_
   | with_reducible refine Ze ?_
   | with_reducible refine Z7 ?_
   | with_reducible refine Zx ?_
   | with_reducible refine Zb ?_
   | with_reducible refine Z8 ?_
   | ((with_reducible apply Zy); rfl))
  refine Zak ⟨i + 1, by omega, by omega, ?_⟩
  refine Zah (n := 4) rfl ?_ ?_ ?_ <;> try rfl
  repeat (first | exact trivial | refine ⟨.inl rfl, ?_⟩ | refine ⟨.inr ⟨rfl, rfl⟩, ?_⟩)
  ·obtain rfl : i = 64 := by omega
   repeat (first
    | ((with_reducible apply Zaj); rfl; rfl; exact (rfl : _ = Value.pointer (some ⟨_, _, _⟩)); exact Zt6 rfl hG rfl)
    | ((with_reducible apply Zci); rfl; rfl; (first
    | exact (rfl : _ = Value.int _ _)
    | exact (rfl : _ = Value.pointer (some _))))
    | ((with_reducible apply Zl); rfl; rfl; (exact (rfl : _ = Value.int _ _)); (exact (rfl : _ = Value.int _ _)); (with_reducible exact Zct (by omega)))
    | ((with_reducible apply Zft); rfl; rfl; exact (rfl : _ = Value.pointer (some ⟨_, _, _⟩)); (exact (rfl : _ = some (Value.pointer (some _)))))
    | ((with_reducible apply Zbk); rfl; rfl; exact (rfl : _ = Value.pointer (some ⟨_, _, _⟩)); (exact (rfl : _ = some 0)); (exact Nat.zero_add _))
    | ((with_reducible apply Zaj); rfl; rfl; exact (rfl : _ = Value.pointer (some ⟨_, _, _⟩)); (exact (rfl : _ = some (Value.agg _))))
    | ((with_reducible apply Zcv); rfl; exact (rfl : _ = Value.pointer (some ⟨_, _, _⟩)); (exact (rfl : _ = Value.agg _)); (rfl); exact (rfl : _ = _ :: _))
    | ((with_reducible apply Zes (nid := 3)); rfl; rfl; rfl; exact (rfl : _ = _ :: _))
    | with_reducible refine Za ?_
    | with_reducible refine Zg ?_
    | with_reducible refine Ze ?_
    | with_reducible refine Z7 ?_
    | with_reducible refine Zbp ?_
    | with_reducible refine Zb ?_
    | with_reducible refine Zau ?_
    | with_reducible refine Za2 ?_
    | ((with_reducible apply Zt); rfl)
    | ((with_reducible apply Za1); rfl))
   refine Zb2 (fun x => [pt 0 0, dead, dead, dead, pt 2 0, dead, dead, pt 3 0] ++ List.replicate 33 dead ++ [.agg (Zag w32 64 kk).toArray, Iv (x : Nat)])
    (fun t : Nat => [stB v (sl 1 0 m c) (w64 n), byB 64 b, wB (Zs5 kk v (Zmy b 64) t).2, vB (Zs5 kk v (Zmy b 64) t).1]) (fun t => t ≤ 64) (fun t => 64 - t) 0 (by omega) ?_ ?_
   ·refine Zah (n := 4) rfl ?_ rfl rfl
    repeat (first | exact trivial | refine ⟨.inl rfl, ?_⟩ | refine ⟨.inr ⟨rfl, rfl⟩, ?_⟩)
   ·intro t ht
    by_cases hlt : t < 64
    ·generalize hv : (Zs5 kk v (Zmy b 64) t).1 = vt
     generalize hw : (Zs5 kk v (Zmy b 64) t).2 = wt
     repeat (first
      | ((with_reducible apply Zv0); rfl; rfl; (exact (rfl : _ = Value.agg _)); (exact (rfl : _ = Value.int _ _)); exact Zn0 (i := t) rfl rfl (by omega) (by omega) (by omega) (fun _ => rfl))
      | ((with_reducible apply Zdi (j := t % 16)); rfl; rfl; exact (rfl : _ = Value.pointer (some ⟨_, _, _⟩)); (exact (rfl : _ = Value.int _ _)); (exact (rfl : _ = some (_, 1))); omega; omega; omega)
      | ((with_reducible apply Zdi (j := (t + 1) % 16)); rfl; rfl; exact (rfl : _ = Value.pointer (some ⟨_, _, _⟩)); (exact (rfl : _ = Value.int _ _)); (exact (rfl : _ = some (_, 1))); omega; omega; omega)
      | ((with_reducible apply Zdi (j := (t + 14) % 16)); rfl; rfl; exact (rfl : _ = Value.pointer (some ⟨_, _, _⟩)); (exact (rfl : _ = Value.int _ _)); (exact (rfl : _ = some (_, 1))); omega; omega; omega)
      | ((with_reducible apply Zdi (j := (t + 9) % 16)); rfl; rfl; exact (rfl : _ = Value.pointer (some ⟨_, _, _⟩)); (exact (rfl : _ = Value.int _ _)); (exact (rfl : _ = some (_, 1))); omega; omega; omega)
      | ((with_reducible apply Zdi (j := 0)); rfl; rfl; exact (rfl : _ = Value.pointer (some ⟨_, _, _⟩)); (exact (rfl : _ = Value.int _ _)); (exact (rfl : _ = some (_, 1))); omega; omega; omega)
      | ((with_reducible apply Zdi (j := 1)); rfl; rfl; exact (rfl : _ = Value.pointer (some ⟨_, _, _⟩)); (exact (rfl : _ = Value.int _ _)); (exact (rfl : _ = some (_, 1))); omega; omega; omega)
      | ((with_reducible apply Zdi (j := 2)); rfl; rfl; exact (rfl : _ = Value.pointer (some ⟨_, _, _⟩)); (exact (rfl : _ = Value.int _ _)); (exact (rfl : _ = some (_, 1))); omega; omega; omega)
      | ((with_reducible apply Zdi (j := 4)); rfl; rfl; exact (rfl : _ = Value.pointer (some ⟨_, _, _⟩)); (exact (rfl : _ = Value.int _ _)); (exact (rfl : _ = some (_, 1))); omega; omega; omega)
      | ((with_reducible apply Zdi (j := 5)); rfl; rfl; exact (rfl : _ = Value.pointer (some ⟨_, _, _⟩)); (exact (rfl : _ = Value.int _ _)); (exact (rfl : _ = some (_, 1))); omega; omega; omega)
      | ((with_reducible apply Zdi (j := 6)); rfl; rfl; exact (rfl : _ = Value.pointer (some ⟨_, _, _⟩)); (exact (rfl : _ = Value.int _ _)); (exact (rfl : _ = some (_, 1))); omega; omega; omega)
      | ((with_reducible apply Zdi (j := 7)); rfl; rfl; exact (rfl : _ = Value.pointer (some ⟨_, _, _⟩)); (exact (rfl : _ = Value.int _ _)); (exact (rfl : _ = some (_, 1))); omega; omega; omega)
      | ((with_reducible apply Zci); rfl; rfl; (exact (rfl : _ = Value.int _ _)))
      | ((with_reducible apply Zc5); rfl; rfl; (exact (rfl : _ = Value.int _ _)))
      | ((with_reducible apply Zl); rfl; rfl; (exact (rfl : _ = Value.int _ _)); (exact (rfl : _ = Value.int _ _)); (first
      | with_reducible exact Zc0 (by omega)
      | with_reducible exact Zan rfl (by omega) (by omega)
      | with_reducible exact Z2s (by first | exact ofI _ _ | rfl) (by first | exact ofI _ _ | rfl)
      | with_reducible exact Z4q (by first | exact ofI _ _ | rfl) (by first | exact ofI _ _ | rfl)
      | with_reducible exact Z0a (by omega)
      | with_reducible exact Z27 (by first | exact ofI _ _ | rfl) (by first | exact ofI _ _ | rfl)
      | with_reducible exact Zz2 (by omega) (by omega)))
      | ((with_reducible apply Zcu); rfl; rfl; (exact (rfl : _ = Value.pointer (some _))); rfl; rfl; (exact (rfl : _ = some (Value.slice (some ⟨_, _, _⟩) _ _))))
      | ((with_reducible apply Zog); rfl; rfl; (exact (rfl : _ = Value.slice _ _ _)); (exact (rfl : _ = Value.slice _ _ _)); exact (rfl : _ = some (Value.int _ _, _, _)); exact (rfl : _ = _ :: _))
      | ((with_reducible apply Zaj); rfl; rfl; exact (rfl : _ = Value.pointer (some ⟨_, _, _⟩)); (first
      | exact Zpx rfl rfl rfl (by omega) (fun _ => rfl)
      | exact (rfl : _ = some (Value.int _ _))))
      | ((with_reducible apply Zcv); rfl; exact (rfl : _ = Value.pointer (some ⟨_, _, _⟩)); (exact (rfl : _ = Value.int _ _)); (first
      | exact Zg2 rfl rfl rfl rfl rfl (by omega) rfl rfl
      | rfl); exact (rfl : _ = _ :: _))
      | ((with_reducible apply Zq (Zv4 _ _)); rfl; rfl; rfl; rfl; rfl; (exact (rfl : _ = Value.int _ _)))
      | ((with_reducible apply Zq (Zlo _ 6 11 _ (by decide) (by decide))); rfl; rfl; rfl; rfl; rfl; (exact (rfl : _ = Value.int _ _)))
      | ((with_reducible apply Zq (Zlo _ 2 13 _ (by decide) (by decide))); rfl; rfl; rfl; rfl; rfl; (exact (rfl : _ = Value.int _ _)))
      | ((with_reducible apply Zq (Zlo _ 7 18 _ (by decide) (by decide))); rfl; rfl; rfl; rfl; rfl; (exact (rfl : _ = Value.int _ _)))
      | ((with_reducible apply Zq (Zlo _ 17 19 _ (by decide) (by decide))); rfl; rfl; rfl; rfl; rfl; (exact (rfl : _ = Value.int _ _)))
      | with_reducible refine Za ?_
      | with_reducible refine Zg ?_
      | with_reducible refine Ze ?_
      | with_reducible refine Z7 ?_
      | with_reducible refine Zx ?_
      | with_reducible refine Zb ?_
      | with_reducible refine Z8 ?_
      | (with_reducible refine Zef (by kernel_rfl) ?_)
      | (with_reducible refine Zgo (by kernel_rfl) ?_)
      | ((with_reducible apply Zy); rfl))
     subst hv; subst hw
     refine Zak ⟨t + 1, by omega, by omega, ?_⟩
     refine Zah (n := 4) rfl ?_ ?_ ?_
     repeat (first | exact trivial | refine ⟨.inl rfl, ?_⟩ | refine ⟨.inr ⟨rfl, rfl⟩, ?_⟩)
     ·rfl
     ·rfl
    ·obtain rfl : t = 64 := by omega
     generalize hv : (Zs5 kk v (Zmy b 64) 64).1 = vt
     generalize hw : (Zs5 kk v (Zmy b 64) 64).2 = wt
     repeat (first
      | ((with_reducible apply Zci); rfl; rfl; (exact (rfl : _ = Value.int _ _)))
      | ((with_reducible apply Zl); rfl; rfl; (exact (rfl : _ = Value.int _ _)); (exact (rfl : _ = Value.int _ _)); (with_reducible exact Zct (by omega)))
      | ((with_reducible apply Zaj); rfl; rfl; exact (rfl : _ = Value.pointer (some ⟨_, _, _⟩)); (exact (rfl : _ = some (Value.agg _))))
      | with_reducible refine Za ?_
      | with_reducible refine Zg ?_
      | with_reducible refine Ze ?_
      | with_reducible refine Z7 ?_
      | with_reducible refine Zbp ?_
      | with_reducible refine Zb ?_
      | with_reducible refine Zau ?_
      | with_reducible refine Za2 ?_
      | ((with_reducible apply Zt); rfl)
      | ((with_reducible apply Za1); rfl))
     refine Zb2 (fun x => [pt 0 0] ++ List.replicate 138 dead ++ [.agg (Zag w32 8 vt).toArray, Iv (x : Nat)])
      (fun x : Nat => [stB (Zx2 v vt x) (sl 1 0 m c) (w64 n), byB 64 b]) (fun x => x ≤ 8) (fun x => 8 - x) 0 (by omega) ?_ ?_
     ·refine Zah (n := 2) rfl ?_ rfl rfl
      repeat (first | exact trivial | refine ⟨.inl rfl, ?_⟩ | refine ⟨.inr ⟨rfl, rfl⟩, ?_⟩)
     ·intro x hx
      by_cases hlt : x < 8
      repeat (first
       | ((with_reducible apply Zdi (j := x)); rfl; rfl; exact (rfl : _ = Value.pointer (some ⟨_, _, _⟩)); (exact (rfl : _ = Value.int _ _)); (exact (rfl : _ = some (_, 1))); omega; omega; omega)
       | ((with_reducible apply Zv0); rfl; rfl; (exact (rfl : _ = Value.agg _)); (exact (rfl : _ = Value.int _ _)); exact Zn0 (i := x) rfl rfl (by omega) (by omega) (by omega) (fun _ => rfl))
       | ((with_reducible apply Zci); rfl; rfl; (first
       | exact (rfl : _ = Value.int _ _)
       | exact (rfl : _ = Value.pointer (some _))))
       | ((with_reducible apply Zc5); rfl; rfl; (exact (rfl : _ = Value.int _ _)))
       | ((with_reducible apply Zl); rfl; rfl; (exact (rfl : _ = Value.int _ _)); (exact (rfl : _ = Value.int _ _)); (first
       | with_reducible exact Zc0 (by omega)
       | with_reducible exact Zan rfl (by omega) (by omega)
       | with_reducible exact Z2s (by first | exact ofI _ _ | rfl) (by first | exact ofI _ _ | rfl)))
       | ((with_reducible apply Zft); rfl; rfl; exact (rfl : _ = Value.pointer (some ⟨_, _, _⟩)); (exact (rfl : _ = some (Value.pointer (some _)))))
       | ((with_reducible apply Zbk); rfl; rfl; exact (rfl : _ = Value.pointer (some ⟨_, _, _⟩)); (exact (rfl : _ = some 0)); (exact Nat.zero_add _))
       | ((with_reducible apply Zaj); rfl; rfl; exact (rfl : _ = Value.pointer (some ⟨_, _, _⟩)); (exact Zn9 rfl rfl rfl (by omega) (fun _ => rfl)))
       | ((with_reducible apply Zcv); rfl; exact (rfl : _ = Value.pointer (some ⟨_, _, _⟩)); (exact (rfl : _ = Value.int _ _)); (exact Ztf rfl rfl rfl rfl rfl (by omega) rfl rfl); exact (rfl : _ = _ :: _))
       | with_reducible refine Za ?_
       | with_reducible refine Zg ?_
       | with_reducible refine Ze ?_
       | with_reducible refine Z7 ?_
       | with_reducible refine Zx ?_
       | with_reducible refine Zb ?_
       | with_reducible refine Z8 ?_
       | (with_reducible refine Zef (by kernel_rfl) ?_)
       | (with_reducible refine Zgo (by kernel_rfl) ?_)
       | ((with_reducible apply Zy); rfl))
      refine Zak ⟨x + 1, by omega, by omega, ?_⟩
      refine Zah (n := 2) rfl ?_ rfl rfl
      repeat (first | exact trivial | refine ⟨.inl rfl, ?_⟩ | refine ⟨.inr ⟨rfl, rfl⟩, ?_⟩)
      ·obtain rfl : x = 8 := by omega
       repeat (first
        | ((with_reducible apply Zl); rfl; rfl; (exact (rfl : _ = Value.int _ _)); (exact (rfl : _ = Value.int _ _)); (with_reducible exact Zct (by omega)))
        | with_reducible refine Za ?_
        | with_reducible refine Zg ?_
        | with_reducible refine Ze ?_
        | with_reducible refine Zbp ?_
        | with_reducible refine Zb ?_
        | with_reducible refine Zau ?_
        | with_reducible refine Za2 ?_
        | ((with_reducible apply Zt); rfl)
        | ((with_reducible apply Za1); rfl))
       refine Zko ?_
       refine Zk (v := .tuple #[]) rfl ?_ rfl ?_ ?_
       ·subst hv; rfl
       ·rfl
       ·exact trivial
end Go.Flat
end
section
namespace Go.Flat
open Go.Proofs
variable {G : Glob}
abbrev Bs := List (BitVec 8)
def bl (s : ByteArray) : Bs := s.data.toList.map UInt8.toBitVec
theorem Zl0 (s : ByteArray) : Zei s = (bl s).map w8 := by
 unfold Zei bl
 rw [List.map_map]; rfl
theorem Zj8 (s : ByteArray) : (bl s).length = s.size := by simp [bl]
def Zao (l : Bs) : Blk := { cells := l.map w8, sz := 1, wr := true, fix := false, mv := true, pur := true }
def Zhs (l : Bs) (j : Nat) : Nat → BitVec 8 := fun i => l.getD (64 * j + i) 0
def Zlv (kk v : Nat → BitVec 32) (l : Bs) : Nat → Nat → BitVec 32
  | 0 => v
  | j + 1 => Z4h kk (Zlv kk v l j) (Zhs l j)
theorem Z4j {l : Bs} {j : Nat} (h : 64 * j + 64 ≤ l.length) : ((l.map w8).drop (64 * j)).take 64 = Zag w8 64 (Zhs l j) := by
 apply List.ext_getElem?
 intro i
 rcases Nat.lt_or_ge i 64 with hi | hi
 ·rw [Zc7 hi, List.getElem?_take, if_pos hi, List.getElem?_drop, List.getElem?_map]
  have : 64 * j + i < l.length := by omega
  simp [Zhs, this]
 ·rw [List.getElem?_eq_none (by simp; omega), List.getElem?_eq_none (by rw [Zcj]; omega)]

theorem Zrm (s : ByteArray) : (Zei s).all Za8 = true := by rw [Zl0]; simp only [List.all_map, List.all_eq_true]; intros; rfl
theorem Zw5 (l : Bs) : (l.map w8).all Za8 = true := by simp only [List.all_map, List.all_eq_true]; intros; rfl
set_option maxHeartbeats 4000000 in
theorem Z2l (kk : Nat → BitVec 32) (hG : G 0 = some (Zag w32 64 kk)) (v : Nat → BitVec 32) (pre rest full : Bs) (s : ByteArray) (n : BitVec 64) (hf : full = rest ++ bl s) (hs : full.length ≤ 140737488355328) :
  Z4 Tryd.prog G 60 [pt 0 0, .string s] [stB v (slv 1 pre.length rest.length rest.length) (w64 n), Zao (pre ++ rest)] (.tuple #[])
   [stB (Zlv kk v full (full.length / 64)) (slv 1 (64 * (full.length / 64)) (full.length - 64 * (full.length / 64)) (full.length - 64 * (full.length / 64))) (w64 (n + BitVec.ofInt 64 s.size)), Zao full] := by
 have hlen : full.length = rest.length + s.size := by rw [hf]; simp [Zj8]
 refine Zbd (fn := Tryd.f60) (nt := 44) rfl rfl rfl rfl ?_
 have hcat : (((pre ++ rest).map w8).drop pre.length).take (rest.length * 1) ++ Zei s = full.map w8 := by
  rw [Nat.mul_one, List.map_append, List.drop_append_of_le_length (by simp), Zl0, hf, List.map_append]
  have : List.drop pre.length (List.map w8 pre) = [] := by simp
  rw [this, List.nil_append, List.take_of_length_le (by simp)]
 repeat (first
  | ((with_reducible apply Zc4); rfl; rfl; rfl; exact .inr rfl; exact (rfl : _ = Value.slice (some ⟨_, _, _⟩) _ _); exact (rfl : _ = Value.string _); exact Zfq (n' := full.length) (rfl : _ = some (1, _, 1)) rfl rfl rfl rfl rfl (Zrm s) (by simp [Zao]) (by decide) hlen.symm (by omega); rfl; exact (rfl : _ = _ :: _))
  | ((with_reducible apply Zci); rfl; rfl; (first
  | exact (rfl : _ = Value.pointer (some _))
  | exact (rfl : _ = Value.string _)))
  | ((with_reducible apply Zl); rfl; rfl; (exact (rfl : _ = Value.int _ _)); (exact (rfl : _ = Value.int _ _)); (with_reducible exact Z4o (by first | exact ofI _ _ | rfl) (by first | exact ofI _ _ | rfl)))
  | ((with_reducible apply Zf9); rfl; rfl; (exact (rfl : _ = Value.int _ _)); (exact Ztw rfl rfl (by first | exact Zla _ | rfl)))
  | ((with_reducible apply Zft); rfl; rfl; exact (rfl : _ = Value.pointer (some ⟨_, _, _⟩)); (exact (rfl : _ = some (Value.pointer (some _)))))
  | ((with_reducible apply Zbk); rfl; rfl; exact (rfl : _ = Value.pointer (some ⟨_, _, _⟩)); (first
  | exact (rfl : _ = some 8)
  | exact (rfl : _ = some 9)); (exact Nat.zero_add _))
  | ((with_reducible apply Zaj); rfl; rfl; exact (rfl : _ = Value.pointer (some ⟨_, _, _⟩)); (first
  | exact (rfl : _ = some (Value.int _ _))
  | exact (rfl : _ = some (Value.slice _ _ _))))
  | ((with_reducible apply Zis); rfl; rfl; (exact (rfl : _ = Value.string _)); (exact (rfl : _ = some (Value.int _ _))))
  | ((with_reducible apply Zcv); rfl; exact (rfl : _ = Value.pointer (some ⟨_, _, _⟩)); (first
  | exact (rfl : _ = Value.int _ _)
  | exact (rfl : _ = Value.slice _ _ _)); (rfl); exact (rfl : _ = _ :: _))
  | with_reducible refine Za ?_
  | with_reducible refine Zg ?_
  | with_reducible refine Ze ?_
  | with_reducible refine Z7 ?_
  | with_reducible refine Zb ?_)
 refine Zb2 (fun x => [pt 0 0])
  (fun j : Nat => [stB (Zlv kk v full j) (slv 1 (64 * j) (full.length - 64 * j) (full.length - 64 * j)) (w64 (n + BitVec.ofInt 64 s.size)), Zao full]) (fun j => 64 * j ≤ full.length) (fun j => full.length - 64 * j) 0 (by omega) ?_ ?_
 ·refine Zah (n := 2) rfl ?_ ?_ rfl
  repeat (first | exact trivial | refine ⟨.inl rfl, ?_⟩ | refine ⟨.inr ⟨rfl, rfl⟩, ?_⟩)
  ·exact congrArg (fun c => [stB v (slv 1 0 full.length full.length) (w64 (n + BitVec.ofInt 64 s.size)), ({ cells := c, sz := 1, wr := true, fix := false, mv := true, pur := true } : Blk)]) hcat
 ·intro j hj
  by_cases hlt : 64 * j + 64 ≤ full.length
  repeat (first
   | ((with_reducible apply Zcu); rfl; rfl; exact (rfl : _ = Value.slice (some ⟨_, _, _⟩) _ _); rfl; rfl; first | exact Zjg (h := 64) rfl rfl rfl (by omega) rfl | exact Zey (l := 64) (sz := 1) (j := 64 * (j + 1)) (m := full.length - 64 * (j + 1)) (c' := full.length - 64 * (j + 1)) rfl rfl rfl rfl (by omega) (by omega) rfl (by omega) (by omega) (by omega))
   | ((with_reducible apply Z0 (e := [some (0, 0), some (1, 64 * j)]) (nid := 0) (Zz6 kk hG (Zlv kk v full j) (Zhs full j) (full.length - 64 * j) (full.length - 64 * j) 64 (n + BitVec.ofInt 64 s.size))); rfl; rfl; rfl; rfl; rfl; rfl; rfl; exact ⟨⟨⟨rfl, rfl⟩, ⟨rfl, rfl, rfl, by omega, by omega⟩, trivial⟩, ⟨Zad rfl rfl rfl rfl, Zcn rfl rfl (by (show 64 * j + (Zag w8 64 _).length ≤ (List.map w8 full).length; rw [Zcj, List.length_map]; exact hlt)) (Z4j hlt), trivial⟩, rfl, rfl, rfl⟩; exact (rfl : _ = Value.tuple _); exact (rfl : _ = _ :: _))
   | ((with_reducible apply Zci); rfl; rfl; (exact (rfl : _ = Value.pointer (some _))))
   | ((with_reducible apply Zl); rfl; rfl; (exact (rfl : _ = Value.int _ _)); (exact (rfl : _ = Value.int _ _)); (with_reducible exact Znx (by omega)))
   | ((with_reducible apply Zft); rfl; rfl; exact (rfl : _ = Value.pointer (some ⟨_, _, _⟩)); (exact (rfl : _ = some (Value.pointer (some _)))))
   | ((with_reducible apply Zbk); rfl; rfl; exact (rfl : _ = Value.pointer (some ⟨_, _, _⟩)); (exact (rfl : _ = some 8)); (exact Nat.zero_add _))
   | ((with_reducible apply Zaj); rfl; rfl; exact (rfl : _ = Value.pointer (some ⟨_, _, _⟩)); (exact (rfl : _ = some (Value.slice _ _ _))))
   | ((with_reducible apply Zis); rfl; rfl; (exact (rfl : _ = Value.slice _ _ _)); (exact (rfl : _ = some (Value.int _ _))))
   | ((with_reducible apply Zcv); rfl; exact (rfl : _ = Value.pointer (some ⟨_, _, _⟩)); (exact (rfl : _ = Value.slice _ _ _)); (rfl); exact (rfl : _ = _ :: _))
   | with_reducible refine Za ?_
   | with_reducible refine Zg ?_
   | with_reducible refine Ze ?_
   | with_reducible refine Z7 ?_
   | with_reducible refine Zx ?_
   | with_reducible refine Zb ?_
   | with_reducible refine Z8 ?_
   | ((with_reducible apply Zy); rfl))
  refine Zak ⟨j + 1, by omega, by omega, ?_⟩
  refine Zah (n := 2) rfl ?_ ?_ rfl
  repeat (first | exact trivial | refine ⟨.inl rfl, ?_⟩ | refine ⟨.inr ⟨rfl, rfl⟩, ?_⟩)
  ·rfl
  ·have hj2 : j = full.length / 64 := by omega
   subst hj2
   repeat (first
    | ((with_reducible apply Zci); rfl; rfl; (exact (rfl : _ = Value.pointer (some _))))
    | ((with_reducible apply Zl); rfl; rfl; (exact (rfl : _ = Value.int _ _)); (exact (rfl : _ = Value.int _ _)); (with_reducible exact Znw (by omega)))
    | ((with_reducible apply Zft); rfl; rfl; exact (rfl : _ = Value.pointer (some ⟨_, _, _⟩)); (exact (rfl : _ = some (Value.pointer (some _)))))
    | ((with_reducible apply Zbk); rfl; rfl; exact (rfl : _ = Value.pointer (some ⟨_, _, _⟩)); (exact (rfl : _ = some 8)); (exact Nat.zero_add _))
    | ((with_reducible apply Zaj); rfl; rfl; exact (rfl : _ = Value.pointer (some ⟨_, _, _⟩)); (exact (rfl : _ = some (Value.slice _ _ _))))
    | ((with_reducible apply Zis); rfl; rfl; (exact (rfl : _ = Value.slice _ _ _)); (exact (rfl : _ = some (Value.int _ _))))
    | with_reducible refine Za ?_
    | with_reducible refine Zg ?_
    | with_reducible refine Ze ?_
    | with_reducible refine Zbp ?_
    | with_reducible refine Zb ?_
    | with_reducible refine Zau ?_
    | with_reducible refine Za2 ?_
    | ((with_reducible apply Zt); rfl)
    | ((with_reducible apply Za1); rfl))
   refine Zko ?_
   refine Zk (v := .tuple #[]) rfl ?_ rfl ?_ ?_
   ·rfl
   ·rfl
   ·exact trivial
end Go.Flat
end
section
namespace Go.Flat
open Go.Proofs
variable {G : Glob}
def Zxm : Nat → BitVec 32
  | 0 => 0x6a09e667 | 1 => 0xbb67ae85 | 2 => 0x3c6ef372 | 3 => 0xa54ff53a | 4 => 0x510e527f | 5 => 0x9b05688c | 6 => 0x1f83d9ab | _ => 0x5be0cd19
abbrev Z57 : Value := .slice none 0 0
def Z2j (v : Nat → BitVec 32) (r n : Value) : List Value := Zag w32 8 v ++ [r, n]
theorem Zx9 : Z4 Tryd.prog G 59 [] [] (.agg (Z2j Zxm Z57 (w64 0)).toArray) [] := by
 refine Zbd (fn := Tryd.f59) (nt := 3) rfl rfl rfl rfl ?_
 refine Zae 1 (H' := [hole]) rfl ?_
 repeat (first
  | ((with_reducible apply Zcz); rfl; rfl; rfl; exact (rfl : _ = some (Value.agg _)))
  | ((with_reducible apply Zcv); rfl; exact (rfl : _ = Value.pointer (some ⟨_, _, _⟩)); (exact (rfl : _ = Value.agg _)); (rfl); exact (rfl : _ = _ :: _))
  | ((with_reducible apply Zes (nid := 0)); rfl; rfl; rfl; exact (rfl : _ = _ :: _))
  | with_reducible refine Za ?_
  | with_reducible refine Zg ?_
  | with_reducible refine Ze ?_
  | with_reducible refine Zr ?_
  | with_reducible refine Zb ?_)
 refine Zs ?_
 refine Zkc (v := .agg _) rfl rfl ?_
 rfl
def tl (M : Bs) : Bs := M.drop (64 * (M.length / 64))
def Zmu (kk : Nat → BitVec 32) (M : Bs) : Nat → BitVec 32 := Zlv kk Zxm M (M.length / 64)
def Zfd (M : Bs) (s : ByteArray) : Bs := (tl M ++ bl s).take (64 * ((tl M ++ bl s).length / 64))
def stM (kk : Nat → BitVec 32) (M pre : Bs) (r : Nat) : Blk := stB (Zmu kk M) (slv r pre.length (tl M).length (tl M).length) (w64 (BitVec.ofNat 64 M.length))
theorem Zu1 (M : Bs) : (tl M).length = M.length - 64 * (M.length / 64) := by simp [tl]
theorem Zwe (M N : Bs) (j : Nat) : Zhs (tl M ++ N) j = Zhs (M ++ N) (M.length / 64 + j) := by
 have hk : 64 * (M.length / 64) ≤ M.length := by omega
 have : tl M ++ N = (M ++ N).drop (64 * (M.length / 64)) := by unfold tl; rw [List.drop_append_of_le_length hk]
 funext i
 unfold Zhs
 rw [this]
 simp only [List.getD_eq_getElem?_getD, List.getElem?_drop]
 congr 2
 omega
theorem Zrg (kk : Nat → BitVec 32) (M N : Bs) : ∀ j, Zlv kk (Zmu kk M) (tl M ++ N) j = Zlv kk Zxm (M ++ N) (M.length / 64 + j)
 | 0 => by
  simp only [Zlv, Nat.add_zero]
  unfold Zmu
  have : ∀ k, 64 * k ≤ M.length → Zlv kk Zxm M k = Zlv kk Zxm (M ++ N) k := by
   intro k
   induction k with
   | zero => intros; rfl
   | succ k ih =>
    intro h
    simp only [Zlv]
    rw [ih (by omega)]
    have hb : ∀ i, i < 64 → Zhs M k i = Zhs (M ++ N) k i := by
     intro i hi
     unfold Zhs
     simp only [List.getD_eq_getElem?_getD]
     rw [List.getElem?_append_left (by omega)]
    have hin : ∀ t, t ≤ 64 → Zmy (Zhs M k) t = Zmy (Zhs (M ++ N) k) t := by
     intro t
     induction t with
     | zero => intros; rfl
     | succ t ih2 => intro ht; simp only [Zmy]; rw [ih2 (by omega), hb t (by omega)]
    unfold Z4h
    rw [hin 64 (by omega)]
  exact this _ (by omega)
 | j + 1 => by
  have e : M.length / 64 + (j + 1) = (M.length / 64 + j) + 1 := by omega
  rw [e]
  simp only [Zlv]
  rw [Zrg kk M N j, Zwe]
theorem Zth (kk : Nat → BitVec 32) (hG : G 0 = some (Zag w32 64 kk)) (M pre : Bs) (s : ByteArray) (hs : (tl M).length + s.size ≤ 140737488355328) :
  Z4 Tryd.prog G 60 [pt 0 0, .string s] [stM kk M pre 1, Zao (pre ++ tl M)] (.tuple #[]) [stM kk (M ++ bl s) (Zfd M s) 1, Zao (Zfd M s ++ tl (M ++ bl s))] := by
 have h := Z2l (G := G) kk hG (Zmu kk M) pre (tl M) (tl M ++ bl s) s (BitVec.ofNat 64 M.length) rfl (by simp [Zj8]; omega)
 have hk : 64 * (M.length / 64) ≤ M.length := by omega
 have hl : (tl M ++ bl s).length = M.length - 64 * (M.length / 64) + s.size := by simp [Zu1, Zj8]
 have hL : (M ++ bl s).length = M.length + s.size := by simp [Zj8]
 have hq : (M ++ bl s).length / 64 = M.length / 64 + (tl M ++ bl s).length / 64 := by rw [hl, hL]; omega
 have hd : tl (M ++ bl s) = (tl M ++ bl s).drop (64 * ((tl M ++ bl s).length / 64)) := by
  have e1 : tl M ++ bl s = (M ++ bl s).drop (64 * (M.length / 64)) := by unfold tl; rw [List.drop_append_of_le_length hk]
  rw [e1, List.drop_drop, ← e1]
  unfold tl
  congr 1
  rw [hq]; unfold tl; omega
 have hp : (Zfd M s).length = 64 * ((tl M ++ bl s).length / 64) := by unfold Zfd; rw [List.length_take]; omega
 have e1 : Zlv kk (Zmu kk M) (tl M ++ bl s) ((tl M ++ bl s).length / 64) = Zmu kk (M ++ bl s) := by rw [Zrg]; unfold Zmu; rw [hq]
 have e2 : Zfd M s ++ tl (M ++ bl s) = tl M ++ bl s := by rw [hd]; exact List.take_append_drop _ _
 have e3 : (tl (M ++ bl s)).length = (tl M ++ bl s).length - 64 * ((tl M ++ bl s).length / 64) := by rw [hd, List.length_drop]
 have e4 : BitVec.ofNat 64 M.length + BitVec.ofInt 64 s.size = BitVec.ofNat 64 (M ++ bl s).length := by rw [hL, BitVec.ofInt_natCast, BitVec.ofNat_add]
 rw [e1, e4, ← e3, ← hp, ← e2] at h
 exact h
end Go.Flat
end
section
namespace Go.Flat
open Go.Proofs
variable {G : Glob}
def Zj0 (ps : List ByteArray) : Blk := { cells := ps.map Value.string, sz := 1, wr := false, fix := false, mv := true, pur := true }
def dgB (d : Nat → BitVec 8) : Blk := { cells := Zag w8 32 d, sz := 32, wr := true, fix := true, mv := false, pur := true }
def Zdx (ps : List ByteArray) : Bs := (ps.map bl).flatten
def Zyb (n : BitVec 64) (i : Nat) : BitVec 8 := (n >>> (56 - 8 * (i : Int)).toNat).setWidth 8
def Z45 (r : Nat) : Bs := (128 : BitVec 8) :: List.replicate ((119 - r) % 64) 0
def Zzt (r : Nat) (n : BitVec 64) : Nat → Bs
  | 0 => Z45 r
  | i + 1 => Zzt r n i ++ [Zyb n i]
def Z6i (v : Nat → BitVec 32) (i : Nat) : BitVec 8 := (v (i / 4) >>> (24 - (i : Int) % 4 * 8).toNat).setWidth 8
def Zs4 (v : Nat → BitVec 32) : Nat → Nat → BitVec 8
  | 0 => fun _ => 0
  | i + 1 => Zg4 (Zs4 v i) i (Z6i v i)
def Z1y (M : Bs) : BitVec 64 := BitVec.ofNat 64 M.length * BitVec.ofInt 64 8
def Ze5 (M : Bs) (i : Nat) : Bs := Zzt (tl M).length (Z1y M) i
def Zck (kk : Nat → BitVec 32) (M : Bs) : Nat → BitVec 8 := Zs4 (Zmu kk (M ++ Ze5 M 8)) 32
theorem Zsr (r : Nat) (n : BitVec 64) : ∀ i, (Zzt r n i).length = 1 + (119 - r) % 64 + i
 | 0 => by simp [Zzt, Z45]; omega
 | i + 1 => by simp [Zzt, Zsr r n i]; omega
def Zn (l : Bs) : ByteArray := ⟨(l.map UInt8.ofBitVec).toArray⟩
theorem Zrk (l : Bs) : bl (Zn l) = l := by
 unfold bl Zn
 simp only [List.map_map]
 have : (UInt8.toBitVec ∘ UInt8.ofBitVec) = (id : BitVec 8 → BitVec 8) := rfl
 rw [this, List.map_id]
theorem Zb8 (l : Bs) : (Zn l).size = l.length := by rw [← Zj8, Zrk]

set_option maxHeartbeats 4000000 in
theorem Zxz (kk : Nat → BitVec 32) (hG : G 0 = some (Zag w32 64 kk)) (ps : List ByteArray) (c : Nat) (hn : ps.length ≤ 1000000) (hs : ∀ s, s ∈ ps → s.size ≤ 70368744177664) :
  Z4 Tryd.prog G 48 [slv 0 0 ps.length c] [Zj0 ps] (.agg (Zag w8 32 (Zck kk (Zdx ps))).toArray) [Zj0 ps] := by
 refine Zbd (fn := Tryd.f48) (nt := 67) rfl rfl rfl rfl ?_
 refine Zae 6 (H' := [Zj0 ps, hole, hole, hole, hole, hole, hole]) rfl ?_
 repeat (first
  | ((with_reducible apply Zci); rfl; rfl; (first
  | exact (rfl : _ = Value.int _ _)
  | exact (rfl : _ = Value.slice _ _ _)))
  | ((with_reducible apply Zis); rfl; rfl; (exact (rfl : _ = Value.slice _ _ _)); (exact (rfl : _ = some (Value.int _ _))))
  | ((with_reducible apply Zcv); rfl; exact (rfl : _ = Value.pointer (some ⟨_, _, _⟩)); (exact (rfl : _ = Value.agg _)); (rfl); exact (rfl : _ = _ :: _))
  | ((with_reducible apply Zes (nid := 1)); rfl; rfl; rfl; exact (rfl : _ = _ :: _))
  | ((with_reducible apply Zes (nid := 2)); rfl; rfl; rfl; exact (rfl : _ = _ :: _))
  | ((with_reducible apply Zq (Zx9)); rfl; rfl; rfl; rfl; rfl; (exact (rfl : _ = Value.agg _)))
  | with_reducible refine Za ?_
  | with_reducible refine Zg ?_
  | with_reducible refine Ze ?_
  | with_reducible refine Z7 ?_
  | with_reducible refine Zb ?_)
 refine Zb6 (Zbe.nilCell (k := 2) (j := 8) (b := 3) true 1 rfl (by decide) rfl (by show 0 < 10; decide) rfl rfl) ?_
 refine Zb2 (fun x : Nat × Bs => [dead, dead, pt 1 0, pt 2 0] ++ List.replicate 8 dead ++ [slv 0 0 ps.length c, Iv ps.length, Iv (x.1 : Nat)])
  (fun x => [Zj0 ps, dgB (fun _ => 0), stM kk (Zdx (ps.take x.1)) x.2 3, Zao (x.2 ++ tl (Zdx (ps.take x.1))), hole, hole, hole]) (fun x => x.1 ≤ ps.length) (fun x => ps.length - x.1) (0, []) (by simp) ?_ ?_
 ·refine Zah (n := 7) rfl ?_ ?_ rfl
  repeat (first | exact trivial | refine ⟨.inl rfl, ?_⟩ | refine ⟨.inr ⟨rfl, rfl⟩, ?_⟩)
  ·show _ = [Zj0 ps, dgB (fun _ => 0), stM kk (Zdx (ps.take 0)) [] 3, Zao ([] ++ tl (Zdx (ps.take 0))), hole, hole, hole]
   rw [show Zdx (ps.take 0) = [] from by simp [Zdx]]
   rfl
 ·rintro ⟨i, pre⟩ hi
  dsimp only at hi ⊢
  by_cases hlt : i < ps.length
  ·have hM : Zdx (ps.take (i + 1)) = Zdx (ps.take i) ++ bl ps[i] := by
    unfold Zdx
    rw [List.take_add_one, List.map_append, List.flatten_append]
    simp [hlt]
   have hsz : (tl (Zdx (ps.take i))).length + (ps[i]).size ≤ 140737488355328 := by
    have := hs ps[i] (List.getElem_mem hlt)
    rw [Zu1]; omega
   have hget : (Zj0 ps).cells[i]? = some (Value.string ps[i]) := by simp [Zj0, hlt]
   generalize hMi : Zdx (ps.take i) = M at hM hsz
   repeat (first
    | ((with_reducible apply Zaj); rfl; rfl; exact (rfl : _ = Value.pointer (some ⟨_, _, _⟩)); exact Zk5 rfl rfl hget rfl)
    | ((with_reducible apply Zch (e := [some (2, 0), some (3, 0)]) (nid := 0) (Zth kk hG M pre ps[i] hsz)); rfl; rfl; rfl; rfl; rfl; rfl; refine ⟨⟨⟨rfl, rfl⟩, rfl, trivial⟩, ⟨Zad rfl rfl rfl (congrArg (fun q => Zag w32 8 (Zmu kk M) ++ [slv 3 q (tl M).length (tl M).length, w64 (BitVec.ofNat 64 M.length)]) (Nat.zero_add _).symm), Zad rfl rfl rfl rfl, trivial⟩, rfl, rfl, rfl, Nat.le_refl _⟩; exact (rfl : _ = Value.tuple _); rfl; exact (rfl : _ = _ :: _))
    | ((with_reducible apply Zb1 (j := i)); rfl; rfl; exact (rfl : _ = Value.slice (some ⟨_, _, _⟩) _ _); (exact (rfl : _ = Value.int _ _)); (exact (rfl : _ = some (_, 1))); omega; omega; omega)
    | ((with_reducible apply Zci); rfl; rfl; (first
    | exact (rfl : _ = Value.int _ _)
    | exact (rfl : _ = Value.string _)))
    | ((with_reducible apply Zc5); rfl; rfl; (exact (rfl : _ = Value.string _)))
    | ((with_reducible apply Zl); rfl; rfl; (exact (rfl : _ = Value.int _ _)); (exact (rfl : _ = Value.int _ _)); (first
    | with_reducible exact Zc0 (by omega)
    | with_reducible exact Zan rfl (by omega) (by omega)))
    | with_reducible refine Za ?_
    | with_reducible refine Zg ?_
    | with_reducible refine Ze ?_
    | with_reducible refine Z7 ?_
    | with_reducible refine Zx ?_
    | with_reducible refine Zb ?_
    | with_reducible refine Z8 ?_
    | ((with_reducible apply Zy); rfl))
   refine Zak ⟨(i + 1, Zfd M ps[i]), by show i + 1 ≤ _; omega, by show _ - (i + 1) < _; omega, ?_⟩
   refine Zah (n := 7) rfl ?_ ?_ rfl
   repeat (first | exact trivial | refine ⟨.inl rfl, ?_⟩ | refine ⟨.inr ⟨rfl, rfl⟩, ?_⟩)
   ·show _ = [Zj0 ps, dgB (fun _ => 0), stM kk (Zdx (ps.take (i + 1))) (Zfd M ps[i]) 3, Zao (Zfd M ps[i] ++ tl (Zdx (ps.take (i + 1)))), hole, hole, hole]
    rw [hM]
    exact congrArg (fun q => [Zj0 ps, dgB (fun _ => 0), stB (Zmu kk (M ++ bl ps[i])) (slv 3 q (tl (M ++ bl ps[i])).length (tl (M ++ bl ps[i])).length) (w64 (BitVec.ofNat 64 (M ++ bl ps[i]).length)), Zao (Zfd M ps[i] ++ tl (M ++ bl ps[i])), hole, hole, hole]) (Nat.zero_add _)
  ·obtain rfl : i = ps.length := by omega
   rw [List.take_length]
   have htl : (tl (Zdx ps)).length < 64 := by rw [Zu1]; omega
   generalize hMi : Zdx ps = M at htl
   have hp : ∀ i, (Ze5 M i).length = 1 + (119 - (tl M).length) % 64 + i := fun i => Zsr _ _ i
   repeat (first
    | ((with_reducible apply Z4c (nid := 4)); rfl; rfl; exact (rfl : _ = Value.int _ _); exact (rfl : _ = Value.int _ _); exact Zzi (n := (119 - (tl M).length) % 64 + 1) (c := 128) (rfl : _ = some (1, _, 1)) (by omega) rfl (by omega) (by decide) (by decide) rfl; exact (rfl : _ = _ :: _))
    | ((with_reducible apply Zcv); rfl; exact (rfl : _ = Value.pointer (some ⟨4, _, _⟩)); exact (rfl : _ = Value.int _ _); exact Zu0 rfl rfl rfl (Z2b _ _) (by simp) rfl rfl; exact (rfl : _ = _ :: _))
    | ((with_reducible apply Zb1 (j := 0)); rfl; rfl; exact (rfl : _ = Value.slice (some ⟨_, _, _⟩) _ _); (exact (rfl : _ = Value.int _ _)); (exact (rfl : _ = some (_, 1))); omega; omega; omega)
    | ((with_reducible apply Zci); rfl; rfl; (first
    | exact (rfl : _ = Value.int _ _)
    | exact (rfl : _ = Value.slice _ _ _)))
    | ((with_reducible apply Zc5); rfl; rfl; (first
    | exact (rfl : _ = Value.int _ _)
    | exact (rfl : _ = Value.slice _ _ _)))
    | ((with_reducible apply Zl); rfl; rfl; (exact (rfl : _ = Value.int _ _)); (exact (rfl : _ = Value.int _ _)); (first
    | with_reducible exact Zct (by omega)
    | with_reducible exact Zan rfl (by omega) (by omega)
    | with_reducible exact Zg8 rfl (by omega) (by omega)
    | with_reducible exact Z2y (by first | exact ofI _ _ | rfl) (by first | exact ofI _ _ | rfl)
    | with_reducible exact Zz2 (by omega) (by omega)))
    | ((with_reducible apply Zbk); rfl; rfl; exact (rfl : _ = Value.pointer (some ⟨_, _, _⟩)); (first
    | exact (rfl : _ = some 8)
    | exact (rfl : _ = some 9)); (exact Nat.zero_add _))
    | ((with_reducible apply Zaj); rfl; rfl; exact (rfl : _ = Value.pointer (some ⟨_, _, _⟩)); (first
    | exact (rfl : _ = some (Value.int _ _))
    | exact (rfl : _ = some (Value.slice _ _ _))))
    | ((with_reducible apply Zis); rfl; rfl; (exact (rfl : _ = Value.slice _ _ _)); (exact (rfl : _ = some (Value.int _ _))))
    | with_reducible refine Za ?_
    | with_reducible refine Zg ?_
    | with_reducible refine Ze ?_
    | with_reducible refine Z7 ?_
    | with_reducible refine Zbp ?_
    | with_reducible refine Zb ?_
    | with_reducible refine Zau ?_
    | with_reducible refine Za2 ?_
    | ((with_reducible apply Zt); rfl)
    | ((with_reducible apply Za1); rfl))
   refine Zb2 (fun x : Nat × Nat => [dead, dead, pt 1 0, pt 2 0, dead, dead, w64 (Z1y M), slv 4 0 (Ze5 M x.1).length x.2] ++ List.replicate 25 dead ++ [Iv (x.1 : Nat)])
    (fun x => [Zj0 ps, dgB (fun _ => 0), stM kk M pre 3, Zao (pre ++ tl M), Zao (Ze5 M x.1)]) (fun x => x.1 ≤ 8) (fun x => 8 - x.1) (0, 128) (by show 0 ≤ 8; decide) ?_ ?_
   ·refine Zah (n := 5) rfl ?_ ?_ rfl
    ·rw [show (Ze5 M (0, 128).1).length = (119 - (tl M).length) % 64 + 1 from by rw [hp]; omega]
     repeat (first | exact trivial | refine ⟨.inl rfl, ?_⟩ | refine ⟨.inr ⟨rfl, rfl⟩, ?_⟩)
    ·exact congrArg (fun q => [Zj0 ps, dgB (fun _ => 0), stM kk M pre 3, Zao (pre ++ tl M), ({ cells := w8 128 :: q, sz := 1, wr := true, fix := false, mv := true, pur := true } : Blk)]) (show List.replicate ((119 - (tl M).length) % 64) (w8 0) = List.map w8 (List.replicate ((119 - (tl M).length) % 64) 0) from by rw [List.map_replicate])
   ·rintro ⟨i, cap⟩ hi8
    dsimp only at hi8 ⊢
    by_cases hl8 : i < 8
    ·have hpi := hp i
     have hpi1 := hp (i + 1)
     refine Zae 1 (H' := [Zj0 ps, dgB (fun _ => 0), stM kk M pre 3, Zao (pre ++ tl M), Zao (Ze5 M i), hole]) rfl ?_
     repeat (first
      | ((with_reducible apply Zen (nid := 5)); rfl; rfl; rfl; exact (rfl : _ = some (Value.slice _ _ _, _)); exact (rfl : _ = _ :: _))
      | ((with_reducible apply Zc4); rfl; rfl; rfl; exact .inl ⟨_, rfl⟩; exact (rfl : _ = Value.slice (some ⟨_, _, _⟩) _ _); exact (rfl : _ = Value.slice (some ⟨_, _, _⟩) _ _); exact Zfq (n' := (Ze5 M (i + 1)).length) (rfl : _ = some (1, _, 1)) (rfl : _ = some (1, _)) rfl rfl rfl rfl rfl (by simp [Zao]) (by decide) (by omega) (by omega); rfl; exact (rfl : _ = _ :: _))
      | ((with_reducible apply Zci); rfl; rfl; (first
      | exact (rfl : _ = Value.int _ _)
      | exact (rfl : _ = Value.slice _ _ _)))
      | ((with_reducible apply Zc5); rfl; rfl; (first
      | exact (rfl : _ = Value.int _ _)
      | exact (rfl : _ = Value.slice _ _ _)))
      | ((with_reducible apply Zl); rfl; rfl; (exact (rfl : _ = Value.int _ _)); (exact (rfl : _ = Value.int _ _)); (first
      | with_reducible exact Zc0 (by omega)
      | with_reducible exact Zan rfl (by omega) (by omega)
      | with_reducible exact Zg8 rfl (by omega) (by omega)
      | with_reducible exact Zvj rfl (by omega) (by omega)
      | with_reducible exact Z24 (by omega)))
      | ((with_reducible apply Zf9); rfl; rfl; (exact (rfl : _ = Value.int _ _)); (exact Znm rfl rfl (by first | exact Zla _ | rfl)))
      | with_reducible refine Za ?_
      | with_reducible refine Zg ?_
      | with_reducible refine Ze ?_
      | with_reducible refine Z7 ?_
      | with_reducible refine Zx ?_
      | with_reducible refine Zb ?_
      | with_reducible refine Z8 ?_
      | ((with_reducible apply Zy); rfl))
     refine Zak ⟨(i + 1, (Ze5 M (i + 1)).length), by show i + 1 ≤ 8; omega, by show 8 - (i + 1) < 8 - i; omega, ?_⟩
     refine Zah (n := 5) rfl ?_ ?_ rfl
     repeat (first | exact trivial | refine ⟨.inl rfl, ?_⟩ | refine ⟨.inr ⟨rfl, rfl⟩, ?_⟩)
     ·have hq : List.take ((Ze5 M i).length * 1) (List.drop 0 ((Ze5 M i).map w8)) ++ [w8 (Zyb (Z1y M) i)] = (Ze5 M (i + 1)).map w8 := by
       rw [Nat.mul_one, List.drop_zero, List.take_of_length_le (by simp)]
       show _ = List.map w8 (Ze5 M i ++ [Zyb (Z1y M) i])
       rw [List.map_append]; rfl
      exact congrArg (fun q => [Zj0 ps, dgB (fun _ => 0), stM kk M pre 3, Zao (pre ++ tl M), ({ cells := q, sz := 1, wr := true, fix := false, mv := true, pur := true } : Blk)]) hq
    ·obtain rfl : i = 8 := by omega
     have hp8 := hp 8
     refine Zae 1 (H' := [Zj0 ps, dgB (fun _ => 0), stM kk M pre 3, Zao (pre ++ tl M), Zao (Ze5 M 8), hole]) rfl ?_
     have hS : bl (Zn (Ze5 M 8)) = Ze5 M 8 := Zrk _
     have hsz : (tl M).length + (Zn (Ze5 M 8)).size ≤ 140737488355328 := by rw [Zb8]; omega
     repeat (first
      | ((with_reducible apply Zjd); rfl; rfl; exact (rfl : _ = Value.slice (some ⟨_, _, _⟩) _ _); exact Zg3 (l := Ze5 M 8) rfl rfl rfl rfl (by simp [Zao]) (by show List.take (Ze5 M 8).length (List.drop 0 ((Ze5 M 8).map w8)) = _; rw [List.drop_zero, List.take_of_length_le (by simp)]))
      | ((with_reducible apply Zch (e := [some (2, 0), some (3, 0)]) (nid := 0) (Zth kk hG M pre (Zn (Ze5 M 8)) hsz)); rfl; rfl; rfl; rfl; rfl; rfl; refine ⟨⟨⟨rfl, rfl⟩, rfl, trivial⟩, ⟨Zad rfl rfl rfl (congrArg (fun q => Zag w32 8 (Zmu kk M) ++ [slv 3 q (tl M).length (tl M).length, w64 (BitVec.ofNat 64 M.length)]) (Nat.zero_add _).symm), Zad rfl rfl rfl rfl, trivial⟩, rfl, rfl, rfl, Nat.le_refl _⟩; exact (rfl : _ = Value.tuple _); rfl; exact (rfl : _ = _ :: _))
      | ((with_reducible apply Zci); rfl; rfl; (first
      | exact (rfl : _ = Value.int _ _)
      | exact (rfl : _ = Value.slice _ _ _)))
      | ((with_reducible apply Zl); rfl; rfl; (exact (rfl : _ = Value.int _ _)); (exact (rfl : _ = Value.int _ _)); (with_reducible exact Zct (by omega)))
      | ((with_reducible apply Zes (nid := 5)); rfl; rfl; rfl; exact (rfl : _ = _ :: _))
      | with_reducible refine Za ?_
      | with_reducible refine Zg ?_
      | with_reducible refine Ze ?_
      | with_reducible refine Z7 ?_
      | with_reducible refine Zbp ?_
      | with_reducible refine Zb ?_
      | with_reducible refine Zau ?_
      | with_reducible refine Za2 ?_
      | ((with_reducible apply Zt); rfl)
      | ((with_reducible apply Za1); rfl))
     generalize hV : Zmu kk (M ++ bl (Zn (Ze5 M 8))) = V
     refine Zb2 (fun x : Nat => [dead, dead, pt 1 0, pt 2 0, dead, dead, dead, dead, dead, pt 5 0] ++ List.replicate 39 dead ++ [Iv (x : Nat)])
      (fun x : Nat => [Zj0 ps, dgB (fun _ => 0), stB V (slv 3 (0 + (Zfd M (Zn (Ze5 M 8))).length) (tl (M ++ bl (Zn (Ze5 M 8)))).length (tl (M ++ bl (Zn (Ze5 M 8)))).length) (w64 (BitVec.ofNat 64 (M ++ bl (Zn (Ze5 M 8))).length)), Zao (Zfd M (Zn (Ze5 M 8)) ++ tl (M ++ bl (Zn (Ze5 M 8)))), Zao (Ze5 M 8), dgB (Zs4 V x)]) (fun x => x ≤ 32) (fun x => 32 - x) 0 (by omega) ?_ ?_
     ·subst hV
      refine Zah (n := 6) rfl ?_ rfl rfl
      repeat (first | exact trivial | refine ⟨.inl rfl, ?_⟩ | refine ⟨.inr ⟨rfl, rfl⟩, ?_⟩)
     ·intro x hx
      by_cases hl : x < 32
      repeat (first
       | ((with_reducible apply Zdi (j := x / 4)); rfl; rfl; exact (rfl : _ = Value.pointer (some ⟨_, _, _⟩)); (exact (rfl : _ = Value.int _ _)); (exact (rfl : _ = some (_, 1))); omega; omega; omega)
       | ((with_reducible apply Zdi (j := x)); rfl; rfl; exact (rfl : _ = Value.pointer (some ⟨_, _, _⟩)); (exact (rfl : _ = Value.int _ _)); (exact (rfl : _ = some (_, 1))); omega; omega; omega)
       | ((with_reducible apply Zci); rfl; rfl; (exact (rfl : _ = Value.int _ _)))
       | ((with_reducible apply Zc5); rfl; rfl; (exact (rfl : _ = Value.int _ _)))
       | ((with_reducible apply Zl); rfl; rfl; (exact (rfl : _ = Value.int _ _)); (exact (rfl : _ = Value.int _ _)); (first
       | with_reducible exact Zc0 (by omega)
       | with_reducible exact Zan rfl (by omega) (by omega)
       | with_reducible exact Zg8 rfl (by omega) (by omega)
       | with_reducible exact Zvj rfl (by omega) (by omega)
       | with_reducible exact Z0a (by omega)
       | with_reducible exact Z2z (by omega) (by omega) (by omega)
       | with_reducible exact Zz2 (by omega) (by omega)))
       | ((with_reducible apply Zf9); rfl; rfl; (exact (rfl : _ = Value.int _ _)); (exact Znm rfl rfl (by first | exact Zla _ | rfl)))
       | ((with_reducible apply Zbk); rfl; rfl; exact (rfl : _ = Value.pointer (some ⟨_, _, _⟩)); (exact (rfl : _ = some 0)); (exact Nat.zero_add _))
       | ((with_reducible apply Zaj); rfl; rfl; exact (rfl : _ = Value.pointer (some ⟨_, _, _⟩)); (exact Zn9 rfl rfl rfl (by omega) (fun _ => rfl)))
       | ((with_reducible apply Zcv); rfl; exact (rfl : _ = Value.pointer (some ⟨_, _, _⟩)); (exact (rfl : _ = Value.int _ _)); (exact Zg2 rfl rfl rfl rfl rfl (by omega) rfl rfl); exact (rfl : _ = _ :: _))
       | with_reducible refine Za ?_
       | with_reducible refine Zg ?_
       | with_reducible refine Ze ?_
       | with_reducible refine Z7 ?_
       | with_reducible refine Zx ?_
       | with_reducible refine Zb ?_
       | with_reducible refine Z8 ?_
       | ((with_reducible apply Zy); rfl))
      refine Zak ⟨x + 1, by omega, by omega, ?_⟩
      refine Zah (n := 6) rfl ?_ rfl rfl
      repeat (first | exact trivial | refine ⟨.inl rfl, ?_⟩ | refine ⟨.inr ⟨rfl, rfl⟩, ?_⟩)
      ·obtain rfl : x = 32 := by omega
       repeat (first
        | ((with_reducible apply Zl); rfl; rfl; (exact (rfl : _ = Value.int _ _)); (exact (rfl : _ = Value.int _ _)); (with_reducible exact Zct (by omega)))
        | ((with_reducible apply Zaj); rfl; rfl; exact (rfl : _ = Value.pointer (some ⟨_, _, _⟩)); (exact (rfl : _ = some (Value.agg _))))
        | ((with_reducible apply Zcv); rfl; exact (rfl : _ = Value.pointer (some ⟨_, _, _⟩)); (exact (rfl : _ = Value.agg _)); (rfl); exact (rfl : _ = _ :: _))
        | with_reducible refine Za ?_
        | with_reducible refine Zg ?_
        | with_reducible refine Ze ?_
        | with_reducible refine Zbp ?_
        | with_reducible refine Zr ?_
        | with_reducible refine Zb ?_
        | with_reducible refine Zau ?_
        | with_reducible refine Za2 ?_
        | ((with_reducible apply Zt); rfl)
        | ((with_reducible apply Za1); rfl))
       refine Zs ?_
       refine Zk (v := .agg (Zag w8 32 (Zs4 V 32)).toArray) rfl rfl rfl rfl ?_
       subst hMi
       rw [hS] at hV
       subst hV
       exact Ze1 (Zex fun _ => rfl) rfl
end Go.Flat
end
section
namespace Go.Flat
open Go.Proofs
variable {G : Glob}
abbrev dgV (d : Nat → BitVec 8) : Value := .agg (Zag w8 32 d).toArray
def dgL (d : Nat → BitVec 8) : Bs := (List.range 32).map d
theorem Zjl (d : Nat → BitVec 8) : (dgL d).length = 32 := by simp [dgL]
def Z13 : ByteArray := ⟨#[1]⟩
def Zn5 (kk : Nat → BitVec 32) (a b : Nat → BitVec 8) : Nat → BitVec 8 := Zck kk (Zdx [Z13, Zn (dgL a), Zn (dgL b)])
theorem Zrc (kk : Nat → BitVec 32) (hG : G 0 = some (Zag w32 64 kk)) : Z4 Tryd.prog G 33 [] [] (dgV (Zck kk [])) [] := by
 refine Zbd (fn := Tryd.f33) (nt := 2) rfl rfl rfl rfl ?_
 refine Zae 1 (H' := [hole]) rfl ?_
 repeat (first
  | ((with_reducible apply Z0 (e := [none]) (nid := 0) (Zxz kk hG [] 0 (by decide) (by simp))); rfl; rfl; rfl; rfl; rfl; rfl; rfl; refine ⟨⟨⟨rfl, rfl, rfl, rfl⟩, trivial⟩, ⟨⟨rfl, rfl, by show 0 < 1; decide⟩, trivial⟩, rfl, rfl, rfl⟩; exact (rfl : _ = Value.agg _); exact (rfl : _ = _ :: _))
  | ((with_reducible apply Zcv); rfl; exact (rfl : _ = Value.pointer (some ⟨_, _, _⟩)); (exact (rfl : _ = Value.agg _)); (rfl); exact (rfl : _ = _ :: _))
  | ((with_reducible apply Zes (nid := 0)); rfl; rfl; rfl; exact (rfl : _ = _ :: _))
  | with_reducible refine Za ?_
  | with_reducible refine Zg ?_
  | with_reducible refine Ze ?_
  | with_reducible refine Zr ?_
  | with_reducible refine Zb ?_)
 refine Zs ?_
 refine Zkc (v := dgV (Zck kk [])) ?_ (Zex fun _ => rfl) rfl
 rfl
theorem Z0q (kk : Nat → BitVec 32) (hG : G 0 = some (Zag w32 64 kk)) (a b : Nat → BitVec 8) : Z4 Tryd.prog G 66 [dgV a, dgV b] [] (dgV (Zn5 kk a b)) [] := by
 refine Zbd (fn := Tryd.f66) (nt := 11) rfl rfl rfl rfl ?_
 refine Zae 4 (H' := [hole, hole, hole, hole]) rfl ?_
 have h32 : ∀ d : Nat → BitVec 8, (Zn (dgL d)).size = 32 := fun d => by rw [Zb8, Zjl]
 have hsz : ∀ s, s ∈ [Z13, Zn (dgL a), Zn (dgL b)] → s.size ≤ 70368744177664 := by
  intro s hs
  simp only [List.mem_cons, List.not_mem_nil, or_false] at hs
  rcases hs with rfl | rfl | rfl
  ·show 1 ≤ 70368744177664; omega
  ·rw [h32]; omega
  ·rw [h32]; omega
 repeat (first
  | ((with_reducible apply Zjd); rfl; rfl; exact (rfl : _ = Value.slice (some ⟨_, _, _⟩) _ _); first | exact Zg3 (l := dgL a) rfl rfl rfl rfl (by show 0 + 32 ≤ 32; decide) rfl | exact Zg3 (l := dgL b) rfl rfl rfl rfl (by show 0 + 32 ≤ 32; decide) rfl)
  | ((with_reducible apply Zen (nid := 3)); rfl; rfl; rfl; exact (rfl : _ = some (Value.slice _ _ _, _)); exact (rfl : _ = _ :: _))
  | ((with_reducible apply Z0 (e := [some (3, 0)]) (nid := 0) (Zxz kk hG [Z13, Zn (dgL a), Zn (dgL b)] 3 (by simp) hsz)); rfl; rfl; rfl; rfl; rfl; rfl; rfl; refine ⟨⟨⟨rfl, rfl, rfl, Nat.le_refl _, Nat.le_refl _⟩, trivial⟩, ⟨Zcn rfl rfl (by show 0 + 3 ≤ 3; decide) rfl, trivial⟩, rfl, rfl, rfl⟩; exact (rfl : _ = Value.agg _); exact (rfl : _ = _ :: _))
  | ((with_reducible apply Zcu); rfl; rfl; (exact (rfl : _ = Value.pointer (some _))); rfl; rfl; (exact (rfl : _ = some (Value.slice (some ⟨_, _, _⟩) _ _))))
  | ((with_reducible apply Zcv); rfl; exact (rfl : _ = Value.pointer (some ⟨_, _, _⟩)); (exact (rfl : _ = Value.agg _)); (rfl); exact (rfl : _ = _ :: _))
  | ((with_reducible apply Zz1 (nid := 0)); rfl; rfl; (exact (rfl : _ = Value.agg _)); rfl; exact (rfl : _ = _ :: _))
  | ((with_reducible apply Zz1 (nid := 1)); rfl; rfl; (exact (rfl : _ = Value.agg _)); rfl; exact (rfl : _ = _ :: _))
  | ((with_reducible apply Zes (nid := 2)); rfl; rfl; rfl; exact (rfl : _ = _ :: _))
  | with_reducible refine Za ?_
  | with_reducible refine Zg ?_
  | with_reducible refine Ze ?_
  | with_reducible refine Zr ?_
  | with_reducible refine Zb ?_
  | (with_reducible refine Zef (by kernel_rfl) ?_)
  | (with_reducible refine Zgo (by kernel_rfl) ?_))
 refine Zs ?_
 refine Zkc (v := dgV (Zn5 kk a b)) ?_ (Zex fun _ => rfl) rfl
 rfl
end Go.Flat
end
section
namespace Go.Flat
open Go.Proofs
variable {G : Glob}
end Go.Flat
end
section
namespace Go.Flat
open Go.Proofs
variable {G : Glob}
def Zjh (n : Int) : Int := if n < 2 then 0 else 2 ^ (Zqi (n - 1).toNat - 1)
end Go.Flat
end
section
namespace Go.Flat
open Go.Proofs
variable {G : Glob}
theorem Z0u (hG : G 2 = some (Zag u8N 64 dbF)) (n : Nat) (h0 : 0 < n) (h1 : n < 18446744073709551616) : Z4 Tryd.prog G 75 [w64 (BitVec.ofNat 64 n)] [] (Iv (tz n)) [] := by
 refine Zbd (fn := Tryd.f75) (nt := 14) rfl rfl rfl rfl ?_
 generalize hx : BitVec.ofNat 64 n = x
 have hx0 : x.toNat = n := by rw [← hx, BitVec.toNat_ofNat]; omega
 have e : (((x &&& -x) * BitVec.ofInt 64 285870213051353865) >>> Int.toNat 58).toNat = ((x &&& -x) * BitVec.ofInt 64 285870213051353865).toNat / 288230376151711744 := by rw [Z2h]; rfl
 have hl := ((x &&& -x) * BitVec.ofInt 64 285870213051353865).isLt
 have hb := Z3l (((x &&& -x) * BitVec.ofInt 64 285870213051353865) >>> Int.toNat 58).toNat
 repeat (first
  | ((with_reducible apply Zgz); rfl; rfl; exact (rfl : _ = Value.int _ _); exact Z0l (ofI _ _))
  | ((with_reducible apply Zaj); rfl; rfl; exact (rfl : _ = Value.pointer (some ⟨_, _, _⟩)); exact Zo4 rfl hG (by omega) (fun _ => rfl))
  | ((with_reducible apply Zdi (j := (((x &&& -x) * BitVec.ofInt 64 285870213051353865) >>> Int.toNat 58).toNat)); rfl; rfl; exact (rfl : _ = Value.pointer (some ⟨_, _, _⟩)); (exact (rfl : _ = Value.int _ _)); (exact (rfl : _ = some (_, 1))); omega; omega; omega)
  | ((with_reducible apply Zci); rfl; rfl; (exact (rfl : _ = Value.int _ _)))
  | ((with_reducible apply Zc5); rfl; rfl; (exact (rfl : _ = Value.int _ _)))
  | ((with_reducible apply Zl); rfl; rfl; (exact (rfl : _ = Value.int _ _)); (exact (rfl : _ = Value.int _ _)); (first
  | with_reducible exact Zed (by omega)
  | with_reducible exact Z2y (by first | exact ofI _ _ | rfl) (by first | exact ofI _ _ | rfl)
  | with_reducible exact Z2u (by first | exact ofI _ _ | rfl) (by first | exact ofI _ _ | rfl)
  | with_reducible exact Z24 (by omega)))
  | ((with_reducible apply Zf9); rfl; rfl; (exact (rfl : _ = Value.int _ _)); (exact Z4u rfl rfl (by omega) (by omega)))
  | with_reducible refine Za ?_
  | with_reducible refine Zg ?_
  | with_reducible refine Ze ?_
  | with_reducible refine Zx ?_
  | with_reducible refine Zr ?_
  | with_reducible refine Zb ?_
  | ((with_reducible apply Zt); rfl))
 refine Zs ?_
 refine Zkc (v := Iv _) rfl rfl ?_
 have := Z5i h0 (by omega)
 simp only [hx] at this
 rw [← this]
 rfl
theorem Z4m (hG : G 2 = some (Zag u8N 64 dbF)) (n : Nat) (h0 : 0 < n) (h1 : n < 18446744073709551616) : Z4 Tryd.prog G 67 [w64 (BitVec.ofNat 64 n)] [] (Iv (tz n)) [] := by
 refine Zbd (fn := Tryd.f67) (nt := 8) rfl rfl rfl rfl ?_
 repeat (first
  | ((with_reducible apply Zci); rfl; rfl; (exact (rfl : _ = Value.int _ _)))
  | ((with_reducible apply Zc5); rfl; rfl; (exact (rfl : _ = Value.int _ _)))
  | ((with_reducible apply Zq (Z0u hG n h0 h1)); rfl; rfl; rfl; rfl; rfl; (exact (rfl : _ = Value.int _ _)))
  | with_reducible refine Za ?_
  | with_reducible refine Zg ?_
  | with_reducible refine Ze ?_
  | with_reducible refine Zx ?_
  | with_reducible refine Zr ?_
  | with_reducible refine Zb ?_
  | ((with_reducible apply Zt); rfl))
 refine Zs ?_
 exact Zkc (v := Iv _) rfl rfl rfl
end Go.Flat
end
section
namespace Go.Flat
open Go.Proofs
variable {G : Glob}
abbrev D := Nat → BitVec 8
def dsC (ds : List D) : List Value := (ds.map (Zag w8 32)).flatten
def dsB (ds : List D) : Blk := { cells := dsC ds, sz := 32, wr := true, fix := false, mv := true, pur := true }
def dsR (ds : List D) : Blk := { cells := dsC ds, sz := 32, wr := false, fix := false, mv := true, pur := true }
def Zov (v : Value) : Blk := { cells := [v], sz := 1, wr := true, fix := true, mv := false, pur := false }
theorem Zgb (ds : List D) : (dsC ds).length = ds.length * 32 := by
 induction ds with
 | nil => rfl
 | cons d ds ih => simp only [dsC, List.map_cons, List.flatten_cons, List.length_append, Zcj, List.length_cons] at ih ⊢; omega
theorem Zm7 (p q : List D) : dsC (p ++ q) = dsC p ++ dsC q := by simp [dsC]
theorem Zym (p q : List D) : (dsC (p ++ q)).drop (p.length * 32) = dsC q := by
 rw [Zm7, List.drop_append_of_le_length (by rw [Zgb]; exact Nat.le_refl _), List.drop_of_length_le (by rw [Zgb]; exact Nat.le_refl _), List.nil_append]
theorem Zyn (p q : List D) : (dsC (p ++ q)).take (p.length * 32) = dsC p := by
 rw [Zm7, List.take_append_of_le_length (by rw [Zgb]; exact Nat.le_refl _), List.take_of_length_le (by rw [Zgb]; exact Nat.le_refl _)]
theorem Znq (d : D) (q : List D) : dsC (d :: q) = Zag w8 32 d ++ dsC q := by simp [dsC]
theorem Ztx (p : List D) (a : D) (q : List D) : ((dsC (p ++ a :: q)).drop (p.length * 32)).take 32 = Zag w8 32 a := by
 rw [Zym, Znq, List.take_append_of_le_length (by rw [Zcj]; exact Nat.le_refl _), List.take_of_length_le (by rw [Zcj]; exact Nat.le_refl _)]
theorem Z1g (p : List D) (a b : D) (q : List D) : ((dsC (p ++ a :: b :: q)).drop ((p.length + 1) * 32)).take 32 = Zag w8 32 b := by
 have := Ztx (p ++ [a]) b q
 simpa using this
set_option maxHeartbeats 4000000 in
theorem Zy5 (kk : Nat → BitVec 32) (hG : G 0 = some (Zag w32 64 kk)) (p : List D) (a b : D) (hp : p.length ≤ 1000000) :
  Z4 Tryd.prog G 65 [pt 0 0] [Zov (slv 1 0 (p.length + 2) (p.length + 2)), dsB (p ++ [a, b])] (.tuple #[]) [Zov (slv 1 0 (p.length + 1) (p.length + 1)), dsB (p ++ [Zn5 kk a b])] := by
 refine Zbd (fn := Tryd.f65) (nt := 21) rfl rfl rfl rfl ?_
 refine Zae 1 (H' := [Zov (slv 1 0 (p.length + 2) (p.length + 2)), dsB (p ++ [a, b]), hole]) rfl ?_
 have hlen : (dsB (p ++ [a, b])).cells.length = (p.length + 2) * 32 := by show (dsC (p ++ [a, b])).length = _; rw [Zgb]; simp
 repeat (first
  | ((with_reducible apply Zcu); rfl; rfl; exact (rfl : _ = Value.slice (some ⟨_, _, _⟩) _ _); rfl; rfl; exact Zjg (h := p.length) rfl rfl (by omega) (by omega) rfl)
  | ((with_reducible apply Zaj); rfl; rfl; exact (rfl : _ = Value.pointer (some ⟨1, _, _⟩)); first | exact Zgk (n := 32) rfl rfl (by omega) (Ztx p a [b]) | exact Zgk (n := 32) rfl rfl (by omega) (Z1g p a b []))
  | ((with_reducible apply Zen (nid := 2)); rfl; rfl; rfl; exact (rfl : _ = some (Value.slice _ _ _, _)); exact (rfl : _ = _ :: _))
  | ((with_reducible apply Zc4); rfl; rfl; rfl; exact .inl ⟨_, rfl⟩; exact (rfl : _ = Value.slice (some ⟨_, _, _⟩) _ _); exact (rfl : _ = Value.slice (some ⟨_, _, _⟩) _ _); exact Zfq (n' := p.length + 1) (rfl : _ = some (32, _, 32)) (rfl : _ = some (1, _)) rfl rfl rfl rfl rfl (by rw [hlen]; omega) (by decide) rfl (by omega); rfl; exact (rfl : _ = _ :: _))
  | ((with_reducible apply Zb1 (j := p.length * 32)); rfl; rfl; exact (rfl : _ = Value.slice (some ⟨_, _, _⟩) _ _); (exact (rfl : _ = Value.int _ _)); (exact (rfl : _ = some (_, 32))); omega; omega; omega)
  | ((with_reducible apply Zb1 (j := (p.length + 1) * 32)); rfl; rfl; exact (rfl : _ = Value.slice (some ⟨_, _, _⟩) _ _); (exact (rfl : _ = Value.int _ _)); (exact (rfl : _ = some (_, 32))); omega; omega; omega)
  | ((with_reducible apply Zci); rfl; rfl; (exact (rfl : _ = Value.int _ _)))
  | ((with_reducible apply Zc5); rfl; rfl; (exact (rfl : _ = Value.int _ _)))
  | ((with_reducible apply Zl); rfl; rfl; (exact (rfl : _ = Value.int _ _)); (exact (rfl : _ = Value.int _ _)); (with_reducible exact Zg8 rfl (by omega) (by omega)))
  | ((with_reducible apply Zaj); rfl; rfl; exact (rfl : _ = Value.pointer (some ⟨_, _, _⟩)); (exact (rfl : _ = some (Value.slice _ _ _))))
  | ((with_reducible apply Zis); rfl; rfl; (exact (rfl : _ = Value.slice _ _ _)); (exact (rfl : _ = some (Value.int _ _))))
  | ((with_reducible apply Zcv); rfl; exact (rfl : _ = Value.pointer (some ⟨_, _, _⟩)); (exact (rfl : _ = Value.slice _ _ _)); (rfl); exact (rfl : _ = _ :: _))
  | ((with_reducible apply Zq (Z0q kk hG a b)); rfl; rfl; rfl; rfl; rfl; (exact (rfl : _ = Value.agg _)))
  | with_reducible refine Za ?_
  | with_reducible refine Zg ?_
  | with_reducible refine Ze ?_
  | with_reducible refine Zb ?_
  | (with_reducible refine Zef (by kernel_rfl) ?_)
  | (with_reducible refine Zgo (by kernel_rfl) ?_))
 refine Zko ?_
 refine Zk (v := .tuple #[]) rfl ?_ rfl ?_ trivial
 ·have hq : List.take (p.length * 32) (List.drop 0 (dsC (p ++ [a, b]))) ++ Zag w8 32 (Zn5 kk a b) = dsC (p ++ [Zn5 kk a b]) := by
   rw [List.drop_zero, Zyn, Zm7, Znq]; simp [dsC]
  exact congrArg (fun q => [Zov (slv 1 0 (p.length + 1) (p.length + 1)), ({ cells := q, sz := 32, wr := true, fix := false, mv := true, pur := true } : Blk)]) hq
 ·rfl
end Go.Flat
end
section
namespace Go.Flat
open Go.Proofs
variable {G : Glob}
def d0 : D := fun _ => 0
def Zn6 (kk : Nat → BitVec 32) (P : List D) : List D := P.take (P.length - 2) ++ [Zn5 kk (P.getD (P.length - 2) d0) (P.getD (P.length - 1) d0)]
def Zfn (kk : Nat → BitVec 32) : Nat → List D → List D
  | 0, P => P
  | n + 1, P => Zn6 kk (Zfn kk n P)
def Zlc (kk : Nat → BitVec 32) (ds : List D) : Nat → List D
  | 0 => []
  | i + 1 => Zfn kk (tz (i + 1)) (Zlc kk ds i ++ [ds.getD i d0])
theorem Zpv (kk : Nat → BitVec 32) {P : List D} (h : 2 ≤ P.length) : (Zn6 kk P).length = P.length - 1 := by simp [Zn6]; omega
theorem Zjq (kk : Nat → BitVec 32) {P : List D} : ∀ n, n + 1 ≤ P.length → (Zfn kk n P).length = P.length - n
 | 0, _ => rfl
 | n + 1, h => by
  have := Zjq kk (P := P) n (by omega)
  simp only [Zfn]
  rw [Zpv kk (by omega), this]; omega
theorem Zmd (kk : Nat → BitVec 32) (ds : List D) : ∀ i, (Zlc kk ds i).length = Zl8 i
 | 0 => rfl
 | i + 1 => by
  have h1 := Zmd kk ds i
  have h2 := (Zqv i).1
  simp only [Zlc, Zl8]
  rw [Zjq kk _ (by simp; omega)]
  simp; omega
def Zfg (kk : Nat → BitVec 32) (ds : List D) : D := if ds.length = 0 then Zck kk [] else (Zfn kk (Zl8 ds.length - 1) (Zlc kk ds ds.length)).getD 0 d0
theorem Z0j {P : List D} (h : 2 ≤ P.length) : P = P.take (P.length - 2) ++ [P.getD (P.length - 2) d0, P.getD (P.length - 1) d0] := by
 apply List.ext_getElem?
 intro i
 have hl : (P.take (P.length - 2)).length = P.length - 2 := by simp
 rcases Nat.lt_or_ge i (P.length - 2) with h1 | h1
 ·rw [List.getElem?_append_left (by omega), List.getElem?_take, if_pos h1]
 ·rw [List.getElem?_append_right (by omega), hl]
  rcases Nat.lt_or_ge i P.length with h2 | h2
  ·rcases Nat.eq_or_lt_of_le h1 with h3 | h3
   ·subst h3; simp [List.getD_eq_getElem?_getD]; rw [List.getElem?_eq_getElem (by omega)]; simp
   ·have : i = P.length - 1 := by omega
    subst this
    have e : P.length - 1 - (P.length - 2) = 1 := by omega
    rw [e]
    simp [List.getD_eq_getElem?_getD]; rw [List.getElem?_eq_getElem (by omega)]; simp
  ·rw [List.getElem?_eq_none h2, List.getElem?_eq_none (by simp; omega)]
theorem Zpu (kk : Nat → BitVec 32) (hG : G 0 = some (Zag w32 64 kk)) (P : List D) (h2 : 2 ≤ P.length) (hp : P.length ≤ 1000000) :
  Z4 Tryd.prog G 65 [pt 0 0] [Zov (slv 1 0 P.length P.length), dsB P] (.tuple #[]) [Zov (slv 1 0 (Zn6 kk P).length (Zn6 kk P).length), dsB (Zn6 kk P)] := by
 have h := Zy5 (G := G) kk hG (P.take (P.length - 2)) (P.getD (P.length - 2) d0) (P.getD (P.length - 1) d0) (by simp; omega)
 rw [← Z0j h2] at h
 have e1 : (P.take (P.length - 2)).length + 2 = P.length := by simp; omega
 have e2 : (P.take (P.length - 2)).length + 1 = (Zn6 kk P).length := by rw [Zpv kk h2]; simp; omega
 rw [e1, e2] at h
 exact h
end Go.Flat
end
section
namespace Go.Flat
open Go.Proofs
variable {G : Glob}
theorem Zvr (ds : List D) (i : Nat) (h : i < ds.length) : ((dsC ds).drop (i * 32)).take 32 = Zag w8 32 (ds.getD i d0) := by
 have e : ds = ds.take i ++ ds[i] :: ds.drop (i + 1) := by rw [← List.drop_eq_getElem_cons h, List.take_append_drop]
 have h2 := Ztx (ds.take i) ds[i] (ds.drop (i + 1))
 rw [← e] at h2
 rw [show (ds.take i).length = i from by simp; omega] at h2
 rw [h2]
 congr 1
 simp [List.getD_eq_getElem?_getD, h]
set_option maxHeartbeats 8000000 in
theorem Z0t (kk : Nat → BitVec 32) (hG : G 0 = some (Zag w32 64 kk)) (hG1 : G 2 = some (Zag u8N 64 dbF)) (ds : List D) (c : Nat) (hn : ds.length ≤ 1000000) (hc : ds.length ≤ c) :
  Z4 Tryd.prog G 52 [slv 0 0 ds.length c] [dsR ds] (dgV (Zfg kk ds)) [dsR ds] := by
 refine Zbd (fn := Tryd.f52) (nt := 41) rfl rfl rfl rfl ?_
 have hR : (dsR ds).cells.length = ds.length * 32 := Zgb ds
 by_cases h0 : ds.length = 0
 ·refine Zae 1 (H' := [dsR ds, hole]) rfl ?_
  repeat (first
   | ((with_reducible apply Zci); rfl; rfl; (exact (rfl : _ = Value.slice _ _ _)))
   | ((with_reducible apply Zl); rfl; rfl; (exact (rfl : _ = Value.int _ _)); (exact (rfl : _ = Value.int _ _)); (with_reducible exact Zc2 (by omega)))
   | ((with_reducible apply Zis); rfl; rfl; (exact (rfl : _ = Value.slice _ _ _)); (exact (rfl : _ = some (Value.int _ _))))
   | ((with_reducible apply Zcv); rfl; exact (rfl : _ = Value.pointer (some ⟨_, _, _⟩)); (exact (rfl : _ = Value.agg _)); (rfl); exact (rfl : _ = _ :: _))
   | ((with_reducible apply Zes (nid := 1)); rfl; rfl; rfl; exact (rfl : _ = _ :: _))
   | ((with_reducible apply Zq (Zrc kk hG)); rfl; rfl; rfl; rfl; rfl; (exact (rfl : _ = Value.agg _)))
   | with_reducible refine Za ?_
   | with_reducible refine Zg ?_
   | with_reducible refine Ze ?_
   | with_reducible refine Zr ?_
   | with_reducible refine Zb ?_
   | with_reducible refine Z3 ?_
   | ((with_reducible apply Zy); rfl))
  refine Zs ?_
  refine Zk (v := dgV (Zck kk [])) rfl rfl rfl ?_ ?_
  ·simp [Za6, dsR]
  ·exact Ze1 (Zex fun _ => rfl) (by unfold Zfg; rw [if_pos h0])
 ·refine Zae 2 (H' := [dsR ds, hole, hole]) rfl ?_
  repeat (first
   | ((with_reducible apply Zci); rfl; rfl; (first
   | exact (rfl : _ = Value.int _ _)
   | exact (rfl : _ = Value.slice _ _ _)))
   | ((with_reducible apply Zc5); rfl; rfl; (exact (rfl : _ = Value.func _ _ _)))
   | ((with_reducible apply Zl); rfl; rfl; (exact (rfl : _ = Value.int _ _)); (exact (rfl : _ = Value.int _ _)); (with_reducible exact Zed (by omega)))
   | ((with_reducible apply Zgl); rfl; rfl; (exact (rfl : _ = [])); (exact (rfl : _ = [_])); rfl)
   | ((with_reducible apply Zis); rfl; rfl; (exact (rfl : _ = Value.slice _ _ _)); (exact (rfl : _ = some (Value.int _ _))))
   | ((with_reducible apply Zes (nid := 1)); rfl; rfl; rfl; exact (rfl : _ = _ :: _))
   | ((with_reducible apply Zes (nid := 2)); rfl; rfl; rfl; exact (rfl : _ = _ :: _))
   | with_reducible refine Za ?_
   | with_reducible refine Zg ?_
   | with_reducible refine Ze ?_
   | with_reducible refine Z7 ?_
   | with_reducible refine Zx ?_
   | with_reducible refine Zb ?_
   | ((with_reducible apply Zt); rfl))
  refine Zb6 (Zbe.nilCell (k := 2) (j := 0) (b := 3) true 32 rfl (by decide) rfl (by show 0 < 1; decide) rfl rfl) ?_
  refine Zb2 (fun i : Nat => [dead, dead, pt 1 0, pt 2 0, .func (.func 65) #[] #[pt 2 0]] ++ List.replicate 7 dead ++ [slv 0 0 ds.length c, Iv ds.length, Iv (i : Nat)])
   (fun i => [dsR ds, dgB (fun _ => 0), Zov (slv 3 0 (Zlc kk ds i).length (Zlc kk ds i).length), dsB (Zlc kk ds i)]) (fun i => i ≤ ds.length) (fun i => ds.length - i) 0 (by omega) ?_ ?_
  ·refine Zah (n := 4) rfl ?_ rfl rfl
   repeat (first | exact trivial | refine ⟨.inl rfl, ?_⟩ | refine ⟨.inr ⟨rfl, rfl⟩, ?_⟩)
  ·intro i hi
   by_cases hlt : i < ds.length
   ·have hpl := Zmd kk ds i
    obtain ⟨ok1, ok2, ok3⟩ := Zqv i
    generalize hP : Zlc kk ds i = P at hpl
    have hPl : (P ++ [ds.getD i d0]).length = Zl8 i + 1 := by simp [hpl]
    refine Zae 2 (H' := [dsR ds, dgB (fun _ => 0), Zov (slv 3 0 P.length P.length), dsB P, hole, hole]) rfl ?_
    have hBl : (dsB P).cells.length = P.length * 32 := Zgb P
    have htz : (BitVec.ofInt 64 ((i : Int) + 1)) = BitVec.ofNat 64 (i + 1) := by rw [show ((i : Int) + 1) = ((i + 1 : Nat) : Int) from rfl, BitVec.ofInt_natCast]
    repeat (first
     | ((with_reducible apply Zaj); rfl; rfl; exact (rfl : _ = Value.pointer (some ⟨0, _, _⟩)); exact Zgk (n := 32) rfl rfl (by omega) (Zvr ds i hlt))
     | ((with_reducible apply Zen (nid := 5)); rfl; rfl; rfl; exact (rfl : _ = some (Value.slice _ _ _, _)); exact (rfl : _ = _ :: _))
     | ((with_reducible apply Zc4); rfl; rfl; rfl; exact .inl ⟨_, rfl⟩; exact (rfl : _ = Value.slice (some ⟨_, _, _⟩) _ _); exact (rfl : _ = Value.slice (some ⟨_, _, _⟩) _ _); exact Zfq (n' := (P ++ [ds.getD i d0]).length) (rfl : _ = some (32, _, 32)) (rfl : _ = some (1, _)) rfl rfl rfl rfl rfl (by rw [hBl]; omega) (by decide) (by simp) (by omega); rfl; exact (rfl : _ = _ :: _))
     | ((with_reducible apply Zf9); rfl; rfl; exact (rfl : _ = Value.int _ _); exact Ztw rfl rfl htz)
     | ((with_reducible apply Zb1 (j := i * 32)); rfl; rfl; exact (rfl : _ = Value.slice (some ⟨_, _, _⟩) _ _); (exact (rfl : _ = Value.int _ _)); (exact (rfl : _ = some (_, 32))); omega; omega; omega)
     | ((with_reducible apply Zci); rfl; rfl; (exact (rfl : _ = Value.int _ _)))
     | ((with_reducible apply Zc5); rfl; rfl; (exact (rfl : _ = Value.int _ _)))
     | ((with_reducible apply Zl); rfl; rfl; (exact (rfl : _ = Value.int _ _)); (exact (rfl : _ = Value.int _ _)); (first
     | with_reducible exact Zc0 (by omega)
     | with_reducible exact Zan rfl (by omega) (by omega)))
     | ((with_reducible apply Zaj); rfl; rfl; exact (rfl : _ = Value.pointer (some ⟨_, _, _⟩)); (first
     | exact (rfl : _ = some (Value.slice _ _ _))
     | exact (rfl : _ = some (Value.agg _))))
     | ((with_reducible apply Zcv); rfl; exact (rfl : _ = Value.pointer (some ⟨_, _, _⟩)); (first
     | exact (rfl : _ = Value.slice _ _ _)
     | exact (rfl : _ = Value.agg _)); (rfl); exact (rfl : _ = _ :: _))
     | ((with_reducible apply Zes (nid := 4)); rfl; rfl; rfl; exact (rfl : _ = _ :: _))
     | ((with_reducible apply Zq (Z4m hG1 (i + 1) (by omega) (by omega))); rfl; rfl; rfl; rfl; rfl; (exact (rfl : _ = Value.int _ _)))
     | with_reducible refine Za ?_
     | with_reducible refine Zg ?_
     | with_reducible refine Ze ?_
     | with_reducible refine Z7 ?_
     | with_reducible refine Zx ?_
     | with_reducible refine Zb ?_
     | ((with_reducible apply Zy); rfl))
    have hcat : List.take (P.length * 32) (List.drop 0 (dsC P)) ++ Zag w8 32 (ds.getD i d0) = dsC (P ++ [ds.getD i d0]) := by
     rw [List.drop_zero, List.take_of_length_le (by rw [Zgb]; exact Nat.le_refl _), Zm7, Znq]; simp [dsC]
    refine Zb2 (fun t : Nat => [dead, dead, pt 1 0, pt 2 0, .func (.func 65) #[] #[pt 2 0]] ++ List.replicate 7 dead ++ [slv 0 0 ds.length c, Iv ds.length, Iv (i : Nat)] ++ List.replicate 11 dead ++ [Iv (tz (i + 1)), Iv (t : Nat)])
     (fun t => [dsR ds, dgB (fun _ => 0), Zov (slv 3 0 (Zfn kk t (P ++ [ds.getD i d0])).length (Zfn kk t (P ++ [ds.getD i d0])).length), dsB (Zfn kk t (P ++ [ds.getD i d0])), dgB (ds.getD i d0)]) (fun t => t ≤ tz (i + 1)) (fun t => tz (i + 1) - t) 0 (by omega) ?_ ?_
    ·refine Zah (n := 5) rfl ?_ ?_ rfl
     repeat (first | exact trivial | refine ⟨.inl rfl, ?_⟩ | refine ⟨.inr ⟨rfl, rfl⟩, ?_⟩)
     ·exact congrArg (fun q => [dsR ds, dgB (fun _ => 0), Zov (slv 3 0 (P ++ [ds.getD i d0]).length (P ++ [ds.getD i d0]).length), ({ cells := q, sz := 32, wr := true, fix := false, mv := true, pur := true } : Blk), dgB (ds.getD i d0)]) hcat
    ·intro t ht
     have hQl := Zjq kk (P := P ++ [ds.getD i d0]) t (by omega)
     by_cases hlt2 : t < tz (i + 1)
     ·generalize hQ : Zfn kk t (P ++ [ds.getD i d0]) = Q at hQl
      repeat (first
       | ((with_reducible apply Zch (e := [some (2, 0), some (3, 0)]) (nid := 0) (Zpu kk hG Q (by omega) (by omega))); rfl; rfl; rfl; rfl; rfl; rfl; refine ⟨⟨⟨rfl, rfl⟩, trivial⟩, ⟨Zad rfl rfl rfl rfl, Zad rfl rfl rfl rfl, trivial⟩, rfl, rfl, rfl, Nat.le_refl _⟩; exact (rfl : _ = Value.tuple _); rfl; exact (rfl : _ = _ :: _))
       | ((with_reducible apply Zci); rfl; rfl; (first
       | exact (rfl : _ = Value.int _ _)
       | exact (rfl : _ = Value.func _ _ _)))
       | ((with_reducible apply Zl); rfl; rfl; (exact (rfl : _ = Value.int _ _)); (exact (rfl : _ = Value.int _ _)); (first
       | with_reducible exact Zc0 (by omega)
       | with_reducible exact Zan rfl (by omega) (by omega)))
       | with_reducible refine Za ?_
       | with_reducible refine Zg ?_
       | with_reducible refine Ze ?_
       | with_reducible refine Z7 ?_
       | with_reducible refine Zx ?_
       | with_reducible refine Zb ?_
       | with_reducible refine Z8 ?_
       | ((with_reducible apply Zy); rfl))
      subst hQ
      refine Zak ⟨t + 1, by omega, by omega, ?_⟩
      refine Zah (n := 5) rfl ?_ rfl rfl
      repeat (first | exact trivial | refine ⟨.inl rfl, ?_⟩ | refine ⟨.inr ⟨rfl, rfl⟩, ?_⟩)
     ·obtain rfl : t = tz (i + 1) := by omega
      repeat (first
       | ((with_reducible apply Zci); rfl; rfl; (exact (rfl : _ = Value.int _ _)))
       | ((with_reducible apply Zl); rfl; rfl; (exact (rfl : _ = Value.int _ _)); (exact (rfl : _ = Value.int _ _)); (first
       | with_reducible exact Zct (by omega)
       | with_reducible exact Zan rfl (by omega) (by omega)))
       | with_reducible refine Za ?_
       | with_reducible refine Zg ?_
       | with_reducible refine Ze ?_
       | with_reducible refine Zbp ?_
       | with_reducible refine Zb ?_
       | with_reducible refine Zau ?_
       | with_reducible refine Z8 ?_
       | with_reducible refine Za2 ?_
       | ((with_reducible apply Zt); rfl)
       | ((with_reducible apply Za1); rfl))
      subst hP
      refine Zak ⟨i + 1, by omega, by omega, ?_⟩
      refine Zah (n := 4) rfl ?_ rfl rfl
      repeat (first | exact trivial | refine ⟨.inl rfl, ?_⟩ | refine ⟨.inr ⟨rfl, rfl⟩, ?_⟩)
   ·obtain rfl : i = ds.length := by omega
    have hpl := Zmd kk ds ds.length
    obtain ⟨ok1, ok2, ok3⟩ := Zqv (ds.length - 1)
    rw [show ds.length - 1 + 1 = ds.length from by omega] at ok2
    have hle : Zl8 ds.length ≤ ds.length := by
     exact Zqu _
    generalize hP : Zlc kk ds ds.length = P at hpl
    repeat (first
     | ((with_reducible apply Zl); rfl; rfl; (exact (rfl : _ = Value.int _ _)); (exact (rfl : _ = Value.int _ _)); (with_reducible exact Zct (by omega)))
     | with_reducible refine Za ?_
     | with_reducible refine Zg ?_
     | with_reducible refine Ze ?_
     | with_reducible refine Z7 ?_
     | with_reducible refine Zbp ?_
     | with_reducible refine Zb ?_
     | with_reducible refine Zau ?_
     | with_reducible refine Za2 ?_
     | ((with_reducible apply Zt); rfl)
     | ((with_reducible apply Za1); rfl))
    refine Zb2 (fun t : Nat => [dead, dead, pt 1 0, pt 2 0, .func (.func 65) #[] #[pt 2 0]])
     (fun t => [dsR ds, dgB (fun _ => 0), Zov (slv 3 0 (Zfn kk t P).length (Zfn kk t P).length), dsB (Zfn kk t P)]) (fun t => t + 1 ≤ P.length) (fun t => P.length - t) 0 (by omega) ?_ ?_
    ·subst hP
     refine Zah (n := 4) rfl ?_ rfl rfl
     repeat (first | exact trivial | refine ⟨.inl rfl, ?_⟩ | refine ⟨.inr ⟨rfl, rfl⟩, ?_⟩)
    ·intro t ht
     have hQl := Zjq kk (P := P) t ht
     by_cases hlt2 : t + 2 ≤ P.length
     ·generalize hQ : Zfn kk t P = Q at hQl
      repeat (first
       | ((with_reducible apply Zch (e := [some (2, 0), some (3, 0)]) (nid := 0) (Zpu kk hG Q (by omega) (by omega))); rfl; rfl; rfl; rfl; rfl; rfl; refine ⟨⟨⟨rfl, rfl⟩, trivial⟩, ⟨Zad rfl rfl rfl rfl, Zad rfl rfl rfl rfl, trivial⟩, rfl, rfl, rfl, Nat.le_refl _⟩; exact (rfl : _ = Value.tuple _); rfl; exact (rfl : _ = _ :: _))
       | ((with_reducible apply Zci); rfl; rfl; (exact (rfl : _ = Value.func _ _ _)))
       | ((with_reducible apply Zl); rfl; rfl; (exact (rfl : _ = Value.int _ _)); (exact (rfl : _ = Value.int _ _)); (with_reducible exact Zgu (by omega)))
       | ((with_reducible apply Zaj); rfl; rfl; exact (rfl : _ = Value.pointer (some ⟨_, _, _⟩)); (exact (rfl : _ = some (Value.slice _ _ _))))
       | ((with_reducible apply Zis); rfl; rfl; (exact (rfl : _ = Value.slice _ _ _)); (exact (rfl : _ = some (Value.int _ _))))
       | with_reducible refine Za ?_
       | with_reducible refine Zg ?_
       | with_reducible refine Ze ?_
       | with_reducible refine Z7 ?_
       | with_reducible refine Zx ?_
       | with_reducible refine Zb ?_
       | with_reducible refine Z8 ?_
       | ((with_reducible apply Zy); rfl))
      subst hQ
      refine Zak ⟨t + 1, by omega, by omega, ?_⟩
      refine Zah (n := 4) rfl ?_ rfl rfl
      repeat (first | exact trivial | refine ⟨.inl rfl, ?_⟩ | refine ⟨.inr ⟨rfl, rfl⟩, ?_⟩)
     ·have ht1 : t = P.length - 1 := by omega
      have hQ1 : (Zfn kk t P).length = 1 := by omega
      have hroot : (Zfn kk t P).getD 0 d0 = Zfg kk ds := by
       unfold Zfg; rw [if_neg h0, hP, ← hpl, ← ht1]
      have hat := Zvr (Zfn kk t P) 0 (by omega)
      rw [hroot] at hat
      have hBl : (dsB (Zfn kk t P)).cells.length = 32 := by show (dsC _).length = _; rw [Zgb, hQ1]
      generalize hQ : Zfn kk t P = Q at hQl hQ1 hat hBl
      repeat (first
       | ((with_reducible apply Zaj); rfl; rfl; exact (rfl : _ = Value.pointer (some ⟨3, _, _⟩)); exact Zgk (n := 32) rfl rfl (by omega) hat)
       | ((with_reducible apply Zb1 (j := 0)); rfl; rfl; exact (rfl : _ = Value.slice (some ⟨_, _, _⟩) _ _); (exact (rfl : _ = Value.int _ _)); (exact (rfl : _ = some (_, 32))); omega; omega; omega)
       | ((with_reducible apply Zl); rfl; rfl; (exact (rfl : _ = Value.int _ _)); (exact (rfl : _ = Value.int _ _)); (with_reducible exact Zgt (by omega)))
       | ((with_reducible apply Zaj); rfl; rfl; exact (rfl : _ = Value.pointer (some ⟨_, _, _⟩)); (exact (rfl : _ = some (Value.slice _ _ _))))
       | ((with_reducible apply Zis); rfl; rfl; (exact (rfl : _ = Value.slice _ _ _)); (exact (rfl : _ = some (Value.int _ _))))
       | ((with_reducible apply Zcv); rfl; exact (rfl : _ = Value.pointer (some ⟨_, _, _⟩)); (exact (rfl : _ = Value.agg _)); (rfl); exact (rfl : _ = _ :: _))
       | with_reducible refine Za ?_
       | with_reducible refine Zg ?_
       | with_reducible refine Ze ?_
       | with_reducible refine Zbp ?_
       | with_reducible refine Zr ?_
       | with_reducible refine Zb ?_
       | with_reducible refine Zau ?_
       | with_reducible refine Za2 ?_
       | ((with_reducible apply Zt); rfl)
       | ((with_reducible apply Za1); rfl))
      refine Zs ?_
      refine Zk (v := dgV (Zfg kk ds)) rfl rfl rfl ?_ ?_
      ·simp [Za6, dsR]
      ·exact Ze1 (Zex fun _ => rfl) rfl
end Go.Flat
end
section
namespace Go.Flat
open Go.Proofs
variable {G : Glob}
def Z6g (us vs : List D) : Bool := us.length == vs.length && (List.range us.length).all fun i => Zfo 32 (us.getD i d0) (vs.getD i d0)
end Go.Flat
end
section
namespace Go.Flat
open Go.Proofs
variable {G : Glob}
def Z4g (P : List D) : Nat → List D
  | 0 => P
  | i + 1 => ((Z4g P i).set i ((Z4g P i).getD (P.length - 1 - i) d0)).set (P.length - 1 - i) ((Z4g P i).getD i d0)
def dsM (b : Bool) (ds : List D) : Blk := { cells := dsC ds, sz := 32, wr := true, fix := false, mv := b, pur := true }
end Go.Flat
end
section
namespace Go.Flat
open Go.Proofs
variable {G : Glob}
def Zyx (kk : Nat → BitVec 32) (f : Nat) (l : List D) (i : Nat) (down : List D) : List D :=
  match f with
  | 0 => down
  | f + 1 => if l.length ≤ 1 then down else
      let k := (Zjh l.length).toNat
      if i < k then Zyx kk f (l.take k) i (down ++ [Zfg kk (l.drop k)]) else Zyx kk f (l.drop k) (i - k) (down ++ [Zfg kk (l.take k)])
theorem Zuy {n : Nat} (h : 2 ≤ n) : 1 ≤ (Zjh n).toNat ∧ (Zjh n).toNat < n ∧ Zjh n = ((Zjh n).toNat : Int) := by
 unfold Zjh
 rw [if_neg (by omega)]
 have hb : ((n : Int) - 1).toNat = n - 1 := by omega
 rw [hb]
 have h0 : n - 1 ≠ 0 := by omega
 have e : Zqi (n - 1) - 1 = (n - 1).log2 := by unfold Zqi; rw [if_neg h0]; rfl
 rw [e]
 have h1 := Nat.log2_self_le h0
 have h2 : (2 : Int) ^ (n - 1).log2 = ((2 ^ (n - 1).log2 : Nat) : Int) := by simp
 have h3 : 0 < 2 ^ (n - 1).log2 := Nat.pow_pos (by decide)
 rw [h2, Int.toNat_natCast]
 refine ⟨h3, by omega, rfl⟩
end Go.Flat
end
section
namespace Go.Flat
open Go.Proofs
variable {G : Glob}
def sub (ds : List D) (o m : Nat) : List D := (ds.drop o).take m
structure IncS where
  o : Nat
  m : Nat
  cap : Nat
  i : Nat
  f : Nat
  down : List D
end Go.Flat
end
section
namespace Go.Flat
open Go.Proofs
variable {G : Glob}
end Go.Flat
end
section
namespace Go.Flat
open Go.Proofs
variable {G : Glob}
def Zvm (kk : Nat → BitVec 32) (f : Nat) (l : List D) (m : Nat) (kn : Bool) (down : List D) : List D :=
  match f with
  | 0 => if kn then down else down ++ [Zfg kk l]
  | f + 1 => if l.length ≤ m then (if kn then down else down ++ [Zfg kk l]) else
      let k := (Zjh l.length).toNat
      if m ≤ k then Zvm kk f (l.take k) m kn (down ++ [Zfg kk (l.drop k)]) else Zvm kk f (l.drop k) (m - k) false (down ++ [Zfg kk (l.take k)])
structure ConS where
  o : Nat
  m : Nat
  cap : Nat
  i : Nat
  kn : Bool
  f : Nat
  down : List D
end Go.Flat
end
section
namespace Go.Flat
open Go.Proofs
variable {G : Glob}
end Go.Flat
end
section
namespace Go.Flat
open Go.Proofs
variable {G : Glob}
def dg1 (k : Nat) : D := fun i => if i = 0 then BitVec.ofNat 8 k else 0
theorem Zwn (ds : List D) : ((dsC ds).drop 0).take (dsC ds).length = dsC ds := by simp
theorem Z3n {H : List Blk} {e : Emb} {id : Nat} {ds : List D} (hB : H[id]? = some (dsB ds)) : Zdz H e (some (id, 0)) (dsR ds) :=
 Zcn hB rfl (by show 0 + (dsC _).length ≤ (dsC _).length; omega) (Zwn _)
end Go.Flat
end
