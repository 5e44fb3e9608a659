/- Walks. -/
import Derived.Test.YtlnggiomppkjmaaDoorFlatC
import Derived.Test.YtlnggiomppkjmaaDoorProg
set_option maxRecDepth 20000
set_option linter.unusedVariables false
set_option linter.unusedSimpArgs false
section
namespace Go.Flat
open Go.Proofs
variable {G : Glob}
def rot (x : BitVec 32) (n : Nat) : BitVec 32 := x <<< n ||| x >>> (32 - n)

theorem Z3e (k : Int) : (BitVec.ofInt 64 k &&& BitVec.ofInt 64 31).toNat = (k % 32).toNat := by
 have h31 : (BitVec.ofInt 64 31).toNat = 2 ^ 5 - 1 := rfl
 rw [BitVec.toNat_and, h31, Nat.and_two_pow_sub_one_eq_mod, BitVec.toNat_ofInt]
 omega
theorem Zwi (x : BitVec 32) (k : Int) : Z6 Tryd.prog G 78 [w32 x, Iv k] [] (w32 (rot x (k % 32).toNat)) [] := by
 refine Zbh (fn := Tryd.f78) (nt := 17) rfl rfl rfl rfl ?_
 repeat (first
  | ((with_reducible apply Zcg); rfl; rfl; (exact (rfl : _ = Value.int _ _)))
  | ((with_reducible apply Zc7); rfl; rfl; (exact (rfl : _ = Value.int _ _)))
  | ((with_reducible apply Zl); rfl; rfl; (exact (rfl : _ = Value.int _ _)); (exact (rfl : _ = Value.int _ _)); (first
  | with_reducible exact Z5q (by first | exact ofI _ _ | rfl) (by first | exact ofI _ _ | rfl)
  | with_reducible exact Z3p (by first | exact ofI _ _ | rfl) (by omega)
  | with_reducible exact Z0u (by omega)
  | with_reducible exact Z3f (by first | exact ofI _ _ | rfl) (by first | exact ofI _ _ | rfl)
  | with_reducible exact Z50 (by first | exact ofI _ _ | rfl) (by first | exact ofI _ _ | rfl)))
  | ((with_reducible apply Zgj); rfl; rfl; (exact (rfl : _ = Value.int _ _)); (exact Zud rfl rfl (by first | exact Zlm _ | rfl)))
  | with_reducible refine Za ?_
  | with_reducible refine Zg ?_
  | with_reducible refine Zf ?_
  | with_reducible refine Zr ?_
  | with_reducible refine Zc ?_)
 refine Zt ?_
 refine Zkh (v := .int _ _) rfl rfl ?_
 have h2 : (BitVec.ofInt 64 32 - (BitVec.ofInt 64 k &&& BitVec.ofInt 64 31)).toNat = 32 - (k % 32).toNat := by
  have h3 := Z3e k
  have h32 : (BitVec.ofInt 64 32).toNat = 32 := rfl
  rw [BitVec.toNat_sub, h3, h32]
  omega
 simp only [Int.toNat_natCast, h2, Z3e, rot]
def Zo8 (x : BitVec 32) (a b : Int) (z : BitVec 32) : BitVec 32 := rot x ((0 - a) % 32).toNat ^^^ rot x ((0 - b) % 32).toNat ^^^ z
theorem Zl0 (x : BitVec 32) (a b : Int) (z : BitVec 32) (ha : 0 ≤ a ∧ a ≤ 32) (hb : 0 ≤ b ∧ b ≤ 32) : Z6 Tryd.prog G 77 [w32 x, Iv a, Iv b, w32 z] [] (w32 (Zo8 x a b z)) [] := by
 refine Zbh (fn := Tryd.f77) (nt := 20) rfl rfl rfl rfl ?_
 repeat (first
  | ((with_reducible apply Zcg); rfl; rfl; (exact (rfl : _ = Value.int _ _)))
  | ((with_reducible apply Zc7); rfl; rfl; (exact (rfl : _ = Value.int _ _)))
  | ((with_reducible apply Zl); rfl; rfl; (exact (rfl : _ = Value.int _ _)); (exact (rfl : _ = Value.int _ _)); (with_reducible exact Z3t (by first | exact ofI _ _ | rfl) (by first | exact ofI _ _ | rfl)))
  | ((with_reducible apply Zfb); rfl; rfl; (exact (rfl : _ = Value.int _ _)); (exact Z46 rfl (by omega) (by omega)))
  | ((with_reducible apply Zs (Zwi _ _)); rfl; rfl; rfl; rfl; rfl; (exact (rfl : _ = Value.int _ _)))
  | with_reducible refine Za ?_
  | with_reducible refine Zg ?_
  | with_reducible refine Zf ?_
  | with_reducible refine Zr ?_
  | with_reducible refine Zc ?_)
 refine Zt ?_
 exact Zkh (v := .int _ _) rfl rfl rfl
end Go.Flat
end
section
namespace Go.Flat
open Go.Proofs
variable {G : Glob}
def inB (w : Nat → BitVec 32) (i : Nat) (x : BitVec 8) : Nat → BitVec 32 := Zhb w (i / 4) (w (i / 4) <<< 8 ||| x.setWidth 32)
def Znd (b : Nat → BitVec 8) : Nat → Nat → BitVec 32
  | 0 => fun _ => 0
  | i + 1 => inB (Znd b i) i (b i)
def Z5w (k : BitVec 32) (v w : Nat → BitVec 32) (t : Nat) : BitVec 32 := v 7 + Zo8 (v 4) 6 11 (rot (v 4) ((-25 : Int) % 32).toNat) + (v 6 ^^^ (v 4 &&& (v 5 ^^^ v 6))) + k + w (t % 16)
def Z5x (v : Nat → BitVec 32) : BitVec 32 := Zo8 (v 0) 2 13 (rot (v 0) ((-22 : Int) % 32).toNat) + ((v 0 &&& v 1) ^^^ (v 0 &&& v 2) ^^^ (v 1 &&& v 2))
def Z3o (p q : BitVec 32) (v : Nat → BitVec 32) : Nat → BitVec 32 := fun k => if k = 0 then p + q else if k = 4 then v 3 + p else v (k - 1)
def Z5y (w : Nat → BitVec 32) (t : Nat) : Nat → BitVec 32 := Zhb w (t % 16) (w (t % 16) + (w ((t + 9) % 16) + Zo8 (w ((t + 1) % 16)) 7 18 (w ((t + 1) % 16) >>> 3) + Zo8 (w ((t + 14) % 16)) 17 19 (w ((t + 14) % 16) >>> 10)))
def Ztl (kk : Nat → BitVec 32) (v w : Nat → BitVec 32) : Nat → (Nat → BitVec 32) × (Nat → BitVec 32)
  | 0 => (v, w)
  | t + 1 => let p := Ztl kk v w t; (Z3o (Z5w (kk t) p.1 p.2 t) (Z5x p.1) p.1, Z5y p.2 t)
def Zyj (v V : Nat → BitVec 32) : Nat → Nat → BitVec 32
  | 0 => v
  | i + 1 => Zhb (Zyj v V i) i (Zyj v V i i + V i)
def Z43 (kk : Nat → BitVec 32) (v : Nat → BitVec 32) (b : Nat → BitVec 8) : Nat → BitVec 32 := Zyj v (Ztl kk v (Znd b 64) 64).1 8

abbrev pt (b o : Nat) : Value := .pointer (some ⟨b, o, none⟩)
abbrev sl (b o n c : Nat) : Value := .slice (some ⟨b, o, none⟩) n c
def stB (v : Nat → BitVec 32) (r n : Value) : Blk := { cells := Zah w32 8 v ++ [r, n], sz := 10, wr := true, fix := true, mv := false, pur := false }
def byB (n : Nat) (b : Nat → BitVec 8) : Blk := { cells := Zah w8 n b, sz := 1, wr := false, fix := false, mv := true, pur := true }
def wB (w : Nat → BitVec 32) : Blk := { cells := Zah w32 16 w, sz := 16, wr := true, fix := true, mv := false, pur := true }
def vB (v : Nat → BitVec 32) : Blk := { cells := Zah w32 8 v, sz := 8, wr := true, fix := true, mv := false, pur := true }

set_option maxHeartbeats 4000000 in
theorem Z0q (kk : Nat → BitVec 32) (hG : G 0 = some (Zah w32 64 kk)) (v : Nat → BitVec 32) (b : Nat → BitVec 8) (m c c' : Nat) (n : BitVec 64) :
  Z6 Tryd.prog G 69 [pt 0 0, sl 1 0 64 c'] [stB v (sl 1 0 m c) (w64 n), byB 64 b] (.tuple #[]) [stB (Z43 kk v b) (sl 1 0 m c) (w64 n), byB 64 b] := by
 refine Zbh (fn := Tryd.f69) (nt := 156) rfl rfl rfl rfl ?_
 refine Zaf 2 (H' := [stB v (sl 1 0 m c) (w64 n), byB 64 b, hole, hole]) rfl ?_
 repeat (first
  | ((with_reducible apply Zcg); rfl; rfl; (first
  | exact (rfl : _ = Value.int _ _)
  | exact (rfl : _ = Value.slice _ _ _)))
  | ((with_reducible apply Ziz); rfl; rfl; (exact (rfl : _ = Value.slice _ _ _)); (exact (rfl : _ = some (Value.int _ _))))
  | ((with_reducible apply Zew (nid := 2)); rfl; rfl; rfl; exact (rfl : _ = _ :: _))
  | with_reducible refine Za ?_
  | with_reducible refine Zg ?_
  | with_reducible refine Zf ?_
  | with_reducible refine Z8 ?_
  | with_reducible refine Zc ?_)
 refine Zbt (fun i => [pt 0 0, sl 1 0 64 c', dead, dead, pt 2 0] ++ List.replicate 13 dead ++ [sl 1 0 64 c', Iv 64, Iv (i : Nat)]) (fun i : Nat => [stB v (sl 1 0 m c) (w64 n), byB 64 b, wB (Znd b i), hole]) (fun i => i ≤ 64) (fun i => 64 - i) 0 (by omega) ?_ ?_
 ·refine Zaj (n := 4) rfl ?_ rfl ?_
  repeat (first | exact trivial | refine ⟨.inl rfl, ?_⟩ | refine ⟨.inr ⟨rfl, rfl⟩, ?_⟩)
  ·rfl
 ·intro i hi
  by_cases hlt : i < 64
  repeat (first
   | ((with_reducible apply Zdn (j := i / 4)); rfl; rfl; exact (rfl : _ = Value.pointer (some ⟨_, _, _⟩)); (exact (rfl : _ = Value.int _ _)); (exact (rfl : _ = some (_, 1))); omega; omega; omega)
   | ((with_reducible apply Zbo (j := i)); rfl; rfl; exact (rfl : _ = Value.slice (some ⟨_, _, _⟩) _ _); (exact (rfl : _ = Value.int _ _)); (exact (rfl : _ = some (_, 1))); omega; omega; omega)
   | ((with_reducible apply Zcg); rfl; rfl; (exact (rfl : _ = Value.int _ _)))
   | ((with_reducible apply Zc7); rfl; rfl; (exact (rfl : _ = Value.int _ _)))
   | ((with_reducible apply Zl); rfl; rfl; (exact (rfl : _ = Value.int _ _)); (exact (rfl : _ = Value.int _ _)); (first
   | with_reducible exact Zck (by omega)
   | with_reducible exact Zak rfl (by omega) (by omega)
   | with_reducible exact Z5q (by first | exact ofI _ _ | rfl) (by first | exact ofI _ _ | rfl)
   | with_reducible exact Z3p (by first | exact ofI _ _ | rfl) (by omega)
   | with_reducible exact Z3l (by omega) (by omega) (by omega)))
   | ((with_reducible apply Zgj); rfl; rfl; (exact (rfl : _ = Value.int _ _)); (exact Z34 rfl rfl (by first | exact Zlm _ | rfl)))
   | ((with_reducible apply Zal); rfl; rfl; exact (rfl : _ = Value.pointer (some ⟨_, _, _⟩)); (exact Zqb rfl rfl rfl (by omega) (fun _ => rfl)))
   | ((with_reducible apply Zc0); rfl; exact (rfl : _ = Value.pointer (some ⟨_, _, _⟩)); (exact (rfl : _ = Value.int _ _)); (exact Zg9 rfl rfl rfl rfl rfl (by omega) rfl rfl); exact (rfl : _ = _ :: _))
   | with_reducible refine Za ?_
   | with_reducible refine Zg ?_
   | with_reducible refine Zf ?_
   | with_reducible refine Z8 ?_
   | with_reducible refine Zz ?_
   | with_reducible refine Zc ?_
   | with_reducible refine Z7 ?_
   | ((with_reducible apply Zy); rfl))
  refine Zag ⟨i + 1, by omega, by omega, ?_⟩
  refine Zaj (n := 4) rfl ?_ ?_ ?_ <;> try rfl
  repeat (first | exact trivial | refine ⟨.inl rfl, ?_⟩ | refine ⟨.inr ⟨rfl, rfl⟩, ?_⟩)
  ·obtain rfl : i = 64 := by omega
   repeat (first
    | ((with_reducible apply Zal); rfl; rfl; exact (rfl : _ = Value.pointer (some ⟨_, _, _⟩)); exact Zum rfl hG rfl)
    | ((with_reducible apply Zcg); rfl; rfl; (first
    | exact (rfl : _ = Value.int _ _)
    | exact (rfl : _ = Value.pointer (some _))))
    | ((with_reducible apply Zl); rfl; rfl; (exact (rfl : _ = Value.int _ _)); (exact (rfl : _ = Value.int _ _)); (with_reducible exact Zcd (by omega)))
    | ((with_reducible apply Zf2); rfl; rfl; exact (rfl : _ = Value.pointer (some ⟨_, _, _⟩)); (exact (rfl : _ = some (Value.pointer (some _)))))
    | ((with_reducible apply Zbl); rfl; rfl; exact (rfl : _ = Value.pointer (some ⟨_, _, _⟩)); (exact (rfl : _ = some 0)); (exact Nat.zero_add _))
    | ((with_reducible apply Zal); rfl; rfl; exact (rfl : _ = Value.pointer (some ⟨_, _, _⟩)); (exact (rfl : _ = some (Value.agg _))))
    | ((with_reducible apply Zc0); rfl; exact (rfl : _ = Value.pointer (some ⟨_, _, _⟩)); (exact (rfl : _ = Value.agg _)); (rfl); exact (rfl : _ = _ :: _))
    | ((with_reducible apply Zew (nid := 3)); rfl; rfl; rfl; exact (rfl : _ = _ :: _))
    | with_reducible refine Za ?_
    | with_reducible refine Zg ?_
    | with_reducible refine Zf ?_
    | with_reducible refine Z8 ?_
    | with_reducible refine Zbm ?_
    | with_reducible refine Zc ?_
    | with_reducible refine Zaq ?_
    | with_reducible refine Zax ?_
    | ((with_reducible apply Zu); rfl)
    | ((with_reducible apply Zav); rfl))
   refine Zbt (fun x => [pt 0 0, dead, dead, dead, pt 2 0, dead, dead, pt 3 0] ++ List.replicate 33 dead ++ [.agg (Zah w32 64 kk).toArray, Iv (x : Nat)])
    (fun t : Nat => [stB v (sl 1 0 m c) (w64 n), byB 64 b, wB (Ztl kk v (Znd b 64) t).2, vB (Ztl kk v (Znd b 64) t).1]) (fun t => t ≤ 64) (fun t => 64 - t) 0 (by omega) ?_ ?_
   ·refine Zaj (n := 4) rfl ?_ rfl rfl
    repeat (first | exact trivial | refine ⟨.inl rfl, ?_⟩ | refine ⟨.inr ⟨rfl, rfl⟩, ?_⟩)
   ·intro t ht
    by_cases hlt : t < 64
    ·generalize hv : (Ztl kk v (Znd b 64) t).1 = vt
     generalize hw : (Ztl kk v (Znd b 64) t).2 = wt
     repeat (first
      | ((with_reducible apply Zwf); rfl; rfl; (exact (rfl : _ = Value.agg _)); (exact (rfl : _ = Value.int _ _)); exact Zog (i := t) rfl rfl (by omega) (by omega) (by omega) (fun _ => rfl))
      | ((with_reducible apply Zdn (j := t % 16)); rfl; rfl; exact (rfl : _ = Value.pointer (some ⟨_, _, _⟩)); (exact (rfl : _ = Value.int _ _)); (exact (rfl : _ = some (_, 1))); omega; omega; omega)
      | ((with_reducible apply Zdn (j := (t + 1) % 16)); rfl; rfl; exact (rfl : _ = Value.pointer (some ⟨_, _, _⟩)); (exact (rfl : _ = Value.int _ _)); (exact (rfl : _ = some (_, 1))); omega; omega; omega)
      | ((with_reducible apply Zdn (j := (t + 14) % 16)); rfl; rfl; exact (rfl : _ = Value.pointer (some ⟨_, _, _⟩)); (exact (rfl : _ = Value.int _ _)); (exact (rfl : _ = some (_, 1))); omega; omega; omega)
      | ((with_reducible apply Zdn (j := (t + 9) % 16)); rfl; rfl; exact (rfl : _ = Value.pointer (some ⟨_, _, _⟩)); (exact (rfl : _ = Value.int _ _)); (exact (rfl : _ = some (_, 1))); omega; omega; omega)
      | ((with_reducible apply Zdn (j := 0)); rfl; rfl; exact (rfl : _ = Value.pointer (some ⟨_, _, _⟩)); (exact (rfl : _ = Value.int _ _)); (exact (rfl : _ = some (_, 1))); omega; omega; omega)
      | ((with_reducible apply Zdn (j := 1)); rfl; rfl; exact (rfl : _ = Value.pointer (some ⟨_, _, _⟩)); (exact (rfl : _ = Value.int _ _)); (exact (rfl : _ = some (_, 1))); omega; omega; omega)
      | ((with_reducible apply Zdn (j := 2)); rfl; rfl; exact (rfl : _ = Value.pointer (some ⟨_, _, _⟩)); (exact (rfl : _ = Value.int _ _)); (exact (rfl : _ = some (_, 1))); omega; omega; omega)
      | ((with_reducible apply Zdn (j := 4)); rfl; rfl; exact (rfl : _ = Value.pointer (some ⟨_, _, _⟩)); (exact (rfl : _ = Value.int _ _)); (exact (rfl : _ = some (_, 1))); omega; omega; omega)
      | ((with_reducible apply Zdn (j := 5)); rfl; rfl; exact (rfl : _ = Value.pointer (some ⟨_, _, _⟩)); (exact (rfl : _ = Value.int _ _)); (exact (rfl : _ = some (_, 1))); omega; omega; omega)
      | ((with_reducible apply Zdn (j := 6)); rfl; rfl; exact (rfl : _ = Value.pointer (some ⟨_, _, _⟩)); (exact (rfl : _ = Value.int _ _)); (exact (rfl : _ = some (_, 1))); omega; omega; omega)
      | ((with_reducible apply Zdn (j := 7)); rfl; rfl; exact (rfl : _ = Value.pointer (some ⟨_, _, _⟩)); (exact (rfl : _ = Value.int _ _)); (exact (rfl : _ = some (_, 1))); omega; omega; omega)
      | ((with_reducible apply Zcg); rfl; rfl; (exact (rfl : _ = Value.int _ _)))
      | ((with_reducible apply Zc7); rfl; rfl; (exact (rfl : _ = Value.int _ _)))
      | ((with_reducible apply Zl); rfl; rfl; (exact (rfl : _ = Value.int _ _)); (exact (rfl : _ = Value.int _ _)); (first
      | with_reducible exact Zck (by omega)
      | with_reducible exact Zak rfl (by omega) (by omega)
      | with_reducible exact Z3d (by first | exact ofI _ _ | rfl) (by first | exact ofI _ _ | rfl)
      | with_reducible exact Z5c (by first | exact ofI _ _ | rfl) (by first | exact ofI _ _ | rfl)
      | with_reducible exact Z0u (by omega)
      | with_reducible exact Z3t (by first | exact ofI _ _ | rfl) (by first | exact ofI _ _ | rfl)
      | with_reducible exact Z0j (by omega) (by omega)))
      | ((with_reducible apply Zcz); rfl; rfl; (exact (rfl : _ = Value.pointer (some _))); rfl; rfl; (exact (rfl : _ = some (Value.slice (some ⟨_, _, _⟩) _ _))))
      | ((with_reducible apply Zox); rfl; rfl; (exact (rfl : _ = Value.slice _ _ _)); (exact (rfl : _ = Value.slice _ _ _)); exact (rfl : _ = some (Value.int _ _, _, _)); exact (rfl : _ = _ :: _))
      | ((with_reducible apply Zal); rfl; rfl; exact (rfl : _ = Value.pointer (some ⟨_, _, _⟩)); (first
      | exact Zqb rfl rfl rfl (by omega) (fun _ => rfl)
      | exact (rfl : _ = some (Value.int _ _))))
      | ((with_reducible apply Zc0); rfl; exact (rfl : _ = Value.pointer (some ⟨_, _, _⟩)); (exact (rfl : _ = Value.int _ _)); (first
      | exact Zg9 rfl rfl rfl rfl rfl (by omega) rfl rfl
      | rfl); exact (rfl : _ = _ :: _))
      | ((with_reducible apply Zs (Zwi _ _)); rfl; rfl; rfl; rfl; rfl; (exact (rfl : _ = Value.int _ _)))
      | ((with_reducible apply Zs (Zl0 _ 6 11 _ (by decide) (by decide))); rfl; rfl; rfl; rfl; rfl; (exact (rfl : _ = Value.int _ _)))
      | ((with_reducible apply Zs (Zl0 _ 2 13 _ (by decide) (by decide))); rfl; rfl; rfl; rfl; rfl; (exact (rfl : _ = Value.int _ _)))
      | ((with_reducible apply Zs (Zl0 _ 7 18 _ (by decide) (by decide))); rfl; rfl; rfl; rfl; rfl; (exact (rfl : _ = Value.int _ _)))
      | ((with_reducible apply Zs (Zl0 _ 17 19 _ (by decide) (by decide))); rfl; rfl; rfl; rfl; rfl; (exact (rfl : _ = Value.int _ _)))
      | with_reducible refine Za ?_
      | with_reducible refine Zg ?_
      | with_reducible refine Zf ?_
      | with_reducible refine Z8 ?_
      | with_reducible refine Zz ?_
      | with_reducible refine Zc ?_
      | with_reducible refine Z7 ?_
      | (with_reducible refine Zdm (by kernel_rfl) ?_)
      | (with_reducible refine Zgh (by kernel_rfl) ?_)
      | ((with_reducible apply Zy); rfl))
     subst hv; subst hw
     refine Zag ⟨t + 1, by omega, by omega, ?_⟩
     refine Zaj (n := 4) rfl ?_ ?_ ?_
     repeat (first | exact trivial | refine ⟨.inl rfl, ?_⟩ | refine ⟨.inr ⟨rfl, rfl⟩, ?_⟩)
     ·rfl
     ·rfl
    ·obtain rfl : t = 64 := by omega
     generalize hv : (Ztl kk v (Znd b 64) 64).1 = vt
     generalize hw : (Ztl kk v (Znd b 64) 64).2 = wt
     repeat (first
      | ((with_reducible apply Zcg); rfl; rfl; (exact (rfl : _ = Value.int _ _)))
      | ((with_reducible apply Zl); rfl; rfl; (exact (rfl : _ = Value.int _ _)); (exact (rfl : _ = Value.int _ _)); (with_reducible exact Zcd (by omega)))
      | ((with_reducible apply Zal); rfl; rfl; exact (rfl : _ = Value.pointer (some ⟨_, _, _⟩)); (exact (rfl : _ = some (Value.agg _))))
      | with_reducible refine Za ?_
      | with_reducible refine Zg ?_
      | with_reducible refine Zf ?_
      | with_reducible refine Z8 ?_
      | with_reducible refine Zbm ?_
      | with_reducible refine Zc ?_
      | with_reducible refine Zaq ?_
      | with_reducible refine Zax ?_
      | ((with_reducible apply Zu); rfl)
      | ((with_reducible apply Zav); rfl))
     refine Zbt (fun x => [pt 0 0] ++ List.replicate 138 dead ++ [.agg (Zah w32 8 vt).toArray, Iv (x : Nat)])
      (fun x : Nat => [stB (Zyj v vt x) (sl 1 0 m c) (w64 n), byB 64 b]) (fun x => x ≤ 8) (fun x => 8 - x) 0 (by omega) ?_ ?_
     ·refine Zaj (n := 2) rfl ?_ rfl rfl
      repeat (first | exact trivial | refine ⟨.inl rfl, ?_⟩ | refine ⟨.inr ⟨rfl, rfl⟩, ?_⟩)
     ·intro x hx
      by_cases hlt : x < 8
      repeat (first
       | ((with_reducible apply Zdn (j := x)); rfl; rfl; exact (rfl : _ = Value.pointer (some ⟨_, _, _⟩)); (exact (rfl : _ = Value.int _ _)); (exact (rfl : _ = some (_, 1))); omega; omega; omega)
       | ((with_reducible apply Zwf); rfl; rfl; (exact (rfl : _ = Value.agg _)); (exact (rfl : _ = Value.int _ _)); exact Zog (i := x) rfl rfl (by omega) (by omega) (by omega) (fun _ => rfl))
       | ((with_reducible apply Zcg); rfl; rfl; (first
       | exact (rfl : _ = Value.int _ _)
       | exact (rfl : _ = Value.pointer (some _))))
       | ((with_reducible apply Zc7); rfl; rfl; (exact (rfl : _ = Value.int _ _)))
       | ((with_reducible apply Zl); rfl; rfl; (exact (rfl : _ = Value.int _ _)); (exact (rfl : _ = Value.int _ _)); (first
       | with_reducible exact Zck (by omega)
       | with_reducible exact Zak rfl (by omega) (by omega)
       | with_reducible exact Z3d (by first | exact ofI _ _ | rfl) (by first | exact ofI _ _ | rfl)))
       | ((with_reducible apply Zf2); rfl; rfl; exact (rfl : _ = Value.pointer (some ⟨_, _, _⟩)); (exact (rfl : _ = some (Value.pointer (some _)))))
       | ((with_reducible apply Zbl); rfl; rfl; exact (rfl : _ = Value.pointer (some ⟨_, _, _⟩)); (exact (rfl : _ = some 0)); (exact Nat.zero_add _))
       | ((with_reducible apply Zal); rfl; rfl; exact (rfl : _ = Value.pointer (some ⟨_, _, _⟩)); (exact Zoo rfl rfl rfl (by omega) (fun _ => rfl)))
       | ((with_reducible apply Zc0); rfl; exact (rfl : _ = Value.pointer (some ⟨_, _, _⟩)); (exact (rfl : _ = Value.int _ _)); (exact Ztv rfl rfl rfl rfl rfl (by omega) rfl rfl); exact (rfl : _ = _ :: _))
       | with_reducible refine Za ?_
       | with_reducible refine Zg ?_
       | with_reducible refine Zf ?_
       | with_reducible refine Z8 ?_
       | with_reducible refine Zz ?_
       | with_reducible refine Zc ?_
       | with_reducible refine Z7 ?_
       | (with_reducible refine Zdm (by kernel_rfl) ?_)
       | (with_reducible refine Zgh (by kernel_rfl) ?_)
       | ((with_reducible apply Zy); rfl))
      refine Zag ⟨x + 1, by omega, by omega, ?_⟩
      refine Zaj (n := 2) rfl ?_ rfl rfl
      repeat (first | exact trivial | refine ⟨.inl rfl, ?_⟩ | refine ⟨.inr ⟨rfl, rfl⟩, ?_⟩)
      ·obtain rfl : x = 8 := by omega
       repeat (first
        | ((with_reducible apply Zl); rfl; rfl; (exact (rfl : _ = Value.int _ _)); (exact (rfl : _ = Value.int _ _)); (with_reducible exact Zcd (by omega)))
        | with_reducible refine Za ?_
        | with_reducible refine Zg ?_
        | with_reducible refine Zf ?_
        | with_reducible refine Zbm ?_
        | with_reducible refine Zc ?_
        | with_reducible refine Zaq ?_
        | with_reducible refine Zax ?_
        | ((with_reducible apply Zu); rfl)
        | ((with_reducible apply Zav); rfl))
       refine Zkr ?_
       refine Zm (v := .tuple #[]) rfl ?_ rfl ?_ ?_
       ·subst hv; rfl
       ·rfl
       ·exact trivial
end Go.Flat
end
section
namespace Go.Flat
open Go.Proofs
variable {G : Glob}
abbrev Bs := List (BitVec 8)
def bl (s : ByteArray) : Bs := s.data.toList.map UInt8.toBitVec
theorem Zmc (s : ByteArray) : Zek s = (bl s).map w8 := by
 unfold Zek bl
 rw [List.map_map]; rfl
theorem Zkd (s : ByteArray) : (bl s).length = s.size := by simp [bl]
def Zao (l : Bs) : Blk := { cells := l.map w8, sz := 1, wr := true, fix := false, mv := true, pur := true }
def Zh3 (l : Bs) (j : Nat) : Nat → BitVec 8 := fun i => l.getD (64 * j + i) 0
def Zl6 (kk v : Nat → BitVec 32) (l : Bs) : Nat → Nat → BitVec 32
  | 0 => v
  | j + 1 => Z43 kk (Zl6 kk v l j) (Zh3 l j)
theorem Z45 {l : Bs} {j : Nat} (h : 64 * j + 64 ≤ l.length) : ((l.map w8).drop (64 * j)).take 64 = Zah w8 64 (Zh3 l j) := by
 apply List.ext_getElem?
 intro i
 rcases Nat.lt_or_ge i 64 with hi | hi
 ·rw [Zc9 hi, List.getElem?_take, if_pos hi, List.getElem?_drop, List.getElem?_map]
  have : 64 * j + i < l.length := by omega
  simp [Zh3, this]
 ·rw [List.getElem?_eq_none (by simp; omega), List.getElem?_eq_none (by rw [Zcs]; omega)]

theorem Zr1 (s : ByteArray) : (Zek s).all Zba = true := by rw [Zmc]; simp only [List.all_map, List.all_eq_true]; intros; rfl
theorem Zxl (l : Bs) : (l.map w8).all Zba = true := by simp only [List.all_map, List.all_eq_true]; intros; rfl
set_option maxHeartbeats 4000000 in
theorem Z26 (kk : Nat → BitVec 32) (hG : G 0 = some (Zah w32 64 kk)) (v : Nat → BitVec 32) (pre rest full : Bs) (s : ByteArray) (n : BitVec 64) (hf : full = rest ++ bl s) (hs : full.length ≤ 140737488355328) :
  Z6 Tryd.prog G 60 [pt 0 0, .string s] [stB v (slv 1 pre.length rest.length rest.length) (w64 n), Zao (pre ++ rest)] (.tuple #[])
   [stB (Zl6 kk v full (full.length / 64)) (slv 1 (64 * (full.length / 64)) (full.length - 64 * (full.length / 64)) (full.length - 64 * (full.length / 64))) (w64 (n + BitVec.ofInt 64 s.size)), Zao full] := by
 have hlen : full.length = rest.length + s.size := by rw [hf]; simp [Zkd]
 refine Zbh (fn := Tryd.f60) (nt := 44) rfl rfl rfl rfl ?_
 have hcat : (((pre ++ rest).map w8).drop pre.length).take (rest.length * 1) ++ Zek s = full.map w8 := by
  rw [Nat.mul_one, List.map_append, List.drop_append_of_le_length (by simp), Zmc, hf, List.map_append]
  have : List.drop pre.length (List.map w8 pre) = [] := by simp
  rw [this, List.nil_append, List.take_of_length_le (by simp)]
 repeat (first
  | ((with_reducible apply Zc6); rfl; rfl; rfl; exact .inr rfl; exact (rfl : _ = Value.slice (some ⟨_, _, _⟩) _ _); exact (rfl : _ = Value.string _); exact Zfy (n' := full.length) (rfl : _ = some (1, _, 1)) rfl rfl rfl rfl rfl (Zr1 s) (by simp [Zao]) (by decide) hlen.symm (by omega); rfl; exact (rfl : _ = _ :: _))
  | ((with_reducible apply Zcg); rfl; rfl; (first
  | exact (rfl : _ = Value.pointer (some _))
  | exact (rfl : _ = Value.string _)))
  | ((with_reducible apply Zl); rfl; rfl; (exact (rfl : _ = Value.int _ _)); (exact (rfl : _ = Value.int _ _)); (with_reducible exact Z5a (by first | exact ofI _ _ | rfl) (by first | exact ofI _ _ | rfl)))
  | ((with_reducible apply Zgj); rfl; rfl; (exact (rfl : _ = Value.int _ _)); (exact Zud rfl rfl (by first | exact Zlm _ | rfl)))
  | ((with_reducible apply Zf2); rfl; rfl; exact (rfl : _ = Value.pointer (some ⟨_, _, _⟩)); (exact (rfl : _ = some (Value.pointer (some _)))))
  | ((with_reducible apply Zbl); rfl; rfl; exact (rfl : _ = Value.pointer (some ⟨_, _, _⟩)); (first
  | exact (rfl : _ = some 8)
  | exact (rfl : _ = some 9)); (exact Nat.zero_add _))
  | ((with_reducible apply Zal); rfl; rfl; exact (rfl : _ = Value.pointer (some ⟨_, _, _⟩)); (first
  | exact (rfl : _ = some (Value.int _ _))
  | exact (rfl : _ = some (Value.slice _ _ _))))
  | ((with_reducible apply Ziz); rfl; rfl; (exact (rfl : _ = Value.string _)); (exact (rfl : _ = some (Value.int _ _))))
  | ((with_reducible apply Zc0); rfl; exact (rfl : _ = Value.pointer (some ⟨_, _, _⟩)); (first
  | exact (rfl : _ = Value.int _ _)
  | exact (rfl : _ = Value.slice _ _ _)); (rfl); exact (rfl : _ = _ :: _))
  | with_reducible refine Za ?_
  | with_reducible refine Zg ?_
  | with_reducible refine Zf ?_
  | with_reducible refine Z8 ?_
  | with_reducible refine Zc ?_)
 refine Zbt (fun x => [pt 0 0])
  (fun j : Nat => [stB (Zl6 kk v full j) (slv 1 (64 * j) (full.length - 64 * j) (full.length - 64 * j)) (w64 (n + BitVec.ofInt 64 s.size)), Zao full]) (fun j => 64 * j ≤ full.length) (fun j => full.length - 64 * j) 0 (by omega) ?_ ?_
 ·refine Zaj (n := 2) rfl ?_ ?_ rfl
  repeat (first | exact trivial | refine ⟨.inl rfl, ?_⟩ | refine ⟨.inr ⟨rfl, rfl⟩, ?_⟩)
  ·exact congrArg (fun c => [stB v (slv 1 0 full.length full.length) (w64 (n + BitVec.ofInt 64 s.size)), ({ cells := c, sz := 1, wr := true, fix := false, mv := true, pur := true } : Blk)]) hcat
 ·intro j hj
  by_cases hlt : 64 * j + 64 ≤ full.length
  repeat (first
   | ((with_reducible apply Zcz); rfl; rfl; exact (rfl : _ = Value.slice (some ⟨_, _, _⟩) _ _); rfl; rfl; first | exact Zjp (h := 64) rfl rfl rfl (by omega) rfl | exact Ze2 (l := 64) (sz := 1) (j := 64 * (j + 1)) (m := full.length - 64 * (j + 1)) (c' := full.length - 64 * (j + 1)) rfl rfl rfl rfl (by omega) (by omega) rfl (by omega) (by omega) (by omega))
   | ((with_reducible apply Z5 (e := [some (0, 0), some (1, 64 * j)]) (nid := 0) (Z0q kk hG (Zl6 kk v full j) (Zh3 full j) (full.length - 64 * j) (full.length - 64 * j) 64 (n + BitVec.ofInt 64 s.size))); rfl; rfl; rfl; rfl; rfl; rfl; rfl; exact ⟨⟨⟨rfl, rfl⟩, ⟨rfl, rfl, rfl, by omega, by omega⟩, trivial⟩, ⟨Zad rfl rfl rfl rfl, Zco rfl rfl (by (show 64 * j + (Zah w8 64 _).length ≤ (List.map w8 full).length; rw [Zcs, List.length_map]; exact hlt)) (Z45 hlt), trivial⟩, rfl, rfl, rfl⟩; exact (rfl : _ = Value.tuple _); exact (rfl : _ = _ :: _))
   | ((with_reducible apply Zcg); rfl; rfl; (exact (rfl : _ = Value.pointer (some _))))
   | ((with_reducible apply Zl); rfl; rfl; (exact (rfl : _ = Value.int _ _)); (exact (rfl : _ = Value.int _ _)); (with_reducible exact Zoe (by omega)))
   | ((with_reducible apply Zf2); rfl; rfl; exact (rfl : _ = Value.pointer (some ⟨_, _, _⟩)); (exact (rfl : _ = some (Value.pointer (some _)))))
   | ((with_reducible apply Zbl); rfl; rfl; exact (rfl : _ = Value.pointer (some ⟨_, _, _⟩)); (exact (rfl : _ = some 8)); (exact Nat.zero_add _))
   | ((with_reducible apply Zal); rfl; rfl; exact (rfl : _ = Value.pointer (some ⟨_, _, _⟩)); (exact (rfl : _ = some (Value.slice _ _ _))))
   | ((with_reducible apply Ziz); rfl; rfl; (exact (rfl : _ = Value.slice _ _ _)); (exact (rfl : _ = some (Value.int _ _))))
   | ((with_reducible apply Zc0); rfl; exact (rfl : _ = Value.pointer (some ⟨_, _, _⟩)); (exact (rfl : _ = Value.slice _ _ _)); (rfl); exact (rfl : _ = _ :: _))
   | with_reducible refine Za ?_
   | with_reducible refine Zg ?_
   | with_reducible refine Zf ?_
   | with_reducible refine Z8 ?_
   | with_reducible refine Zz ?_
   | with_reducible refine Zc ?_
   | with_reducible refine Z7 ?_
   | ((with_reducible apply Zy); rfl))
  refine Zag ⟨j + 1, by omega, by omega, ?_⟩
  refine Zaj (n := 2) rfl ?_ ?_ rfl
  repeat (first | exact trivial | refine ⟨.inl rfl, ?_⟩ | refine ⟨.inr ⟨rfl, rfl⟩, ?_⟩)
  ·rfl
  ·have hj2 : j = full.length / 64 := by omega
   subst hj2
   repeat (first
    | ((with_reducible apply Zcg); rfl; rfl; (exact (rfl : _ = Value.pointer (some _))))
    | ((with_reducible apply Zl); rfl; rfl; (exact (rfl : _ = Value.int _ _)); (exact (rfl : _ = Value.int _ _)); (with_reducible exact Zod (by omega)))
    | ((with_reducible apply Zf2); rfl; rfl; exact (rfl : _ = Value.pointer (some ⟨_, _, _⟩)); (exact (rfl : _ = some (Value.pointer (some _)))))
    | ((with_reducible apply Zbl); rfl; rfl; exact (rfl : _ = Value.pointer (some ⟨_, _, _⟩)); (exact (rfl : _ = some 8)); (exact Nat.zero_add _))
    | ((with_reducible apply Zal); rfl; rfl; exact (rfl : _ = Value.pointer (some ⟨_, _, _⟩)); (exact (rfl : _ = some (Value.slice _ _ _))))
    | ((with_reducible apply Ziz); rfl; rfl; (exact (rfl : _ = Value.slice _ _ _)); (exact (rfl : _ = some (Value.int _ _))))
    | with_reducible refine Za ?_
    | with_reducible refine Zg ?_
    | with_reducible refine Zf ?_
    | with_reducible refine Zbm ?_
    | with_reducible refine Zc ?_
    | with_reducible refine Zaq ?_
    | with_reducible refine Zax ?_
    | ((with_reducible apply Zu); rfl)
    | ((with_reducible apply Zav); rfl))
   refine Zkr ?_
   refine Zm (v := .tuple #[]) rfl ?_ rfl ?_ ?_
   ·rfl
   ·rfl
   ·exact trivial
end Go.Flat
end
section
namespace Go.Flat
open Go.Proofs
variable {G : Glob}
def Zx2 : Nat → BitVec 32
  | 0 => 0x6a09e667 | 1 => 0xbb67ae85 | 2 => 0x3c6ef372 | 3 => 0xa54ff53a | 4 => 0x510e527f | 5 => 0x9b05688c | 6 => 0x1f83d9ab | _ => 0x5be0cd19
abbrev Z6s : Value := .slice none 0 0
def Z24 (v : Nat → BitVec 32) (r n : Value) : List Value := Zah w32 8 v ++ [r, n]
theorem Zyq : Z6 Tryd.prog G 59 [] [] (.agg (Z24 Zx2 Z6s (w64 0)).toArray) [] := by
 refine Zbh (fn := Tryd.f59) (nt := 3) rfl rfl rfl rfl ?_
 refine Zaf 1 (H' := [hole]) rfl ?_
 repeat (first
  | ((with_reducible apply Zdb); rfl; rfl; rfl; exact (rfl : _ = some (Value.agg _)))
  | ((with_reducible apply Zc0); rfl; exact (rfl : _ = Value.pointer (some ⟨_, _, _⟩)); (exact (rfl : _ = Value.agg _)); (rfl); exact (rfl : _ = _ :: _))
  | ((with_reducible apply Zew (nid := 0)); rfl; rfl; rfl; exact (rfl : _ = _ :: _))
  | with_reducible refine Za ?_
  | with_reducible refine Zg ?_
  | with_reducible refine Zf ?_
  | with_reducible refine Zr ?_
  | with_reducible refine Zc ?_)
 refine Zt ?_
 refine Zkh (v := .agg _) rfl rfl ?_
 rfl
def tl (M : Bs) : Bs := M.drop (64 * (M.length / 64))
def Zna (kk : Nat → BitVec 32) (M : Bs) : Nat → BitVec 32 := Zl6 kk Zx2 M (M.length / 64)
def Zfg (M : Bs) (s : ByteArray) : Bs := (tl M ++ bl s).take (64 * ((tl M ++ bl s).length / 64))
def stM (kk : Nat → BitVec 32) (M pre : Bs) (r : Nat) : Blk := stB (Zna kk M) (slv r pre.length (tl M).length (tl M).length) (w64 (BitVec.ofNat 64 M.length))
theorem Zvh (M : Bs) : (tl M).length = M.length - 64 * (M.length / 64) := by simp [tl]
theorem Zwt (M N : Bs) (j : Nat) : Zh3 (tl M ++ N) j = Zh3 (M ++ N) (M.length / 64 + j) := by
 have hk : 64 * (M.length / 64) ≤ M.length := by omega
 have : tl M ++ N = (M ++ N).drop (64 * (M.length / 64)) := by unfold tl; rw [List.drop_append_of_le_length hk]
 funext i
 unfold Zh3
 rw [this]
 simp only [List.getD_eq_getElem?_getD, List.getElem?_drop]
 congr 2
 omega
theorem Zrv (kk : Nat → BitVec 32) (M N : Bs) : ∀ j, Zl6 kk (Zna kk M) (tl M ++ N) j = Zl6 kk Zx2 (M ++ N) (M.length / 64 + j)
 | 0 => by
  simp only [Zl6, Nat.add_zero]
  unfold Zna
  have : ∀ k, 64 * k ≤ M.length → Zl6 kk Zx2 M k = Zl6 kk Zx2 (M ++ N) k := by
   intro k
   induction k with
   | zero => intros; rfl
   | succ k ih =>
    intro h
    simp only [Zl6]
    rw [ih (by omega)]
    have hb : ∀ i, i < 64 → Zh3 M k i = Zh3 (M ++ N) k i := by
     intro i hi
     unfold Zh3
     simp only [List.getD_eq_getElem?_getD]
     rw [List.getElem?_append_left (by omega)]
    have hin : ∀ t, t ≤ 64 → Znd (Zh3 M k) t = Znd (Zh3 (M ++ N) k) t := by
     intro t
     induction t with
     | zero => intros; rfl
     | succ t ih2 => intro ht; simp only [Znd]; rw [ih2 (by omega), hb t (by omega)]
    unfold Z43
    rw [hin 64 (by omega)]
  exact this _ (by omega)
 | j + 1 => by
  have e : M.length / 64 + (j + 1) = (M.length / 64 + j) + 1 := by omega
  rw [e]
  simp only [Zl6]
  rw [Zrv kk M N j, Zwt]
theorem Ztx (kk : Nat → BitVec 32) (hG : G 0 = some (Zah w32 64 kk)) (M pre : Bs) (s : ByteArray) (hs : (tl M).length + s.size ≤ 140737488355328) :
  Z6 Tryd.prog G 60 [pt 0 0, .string s] [stM kk M pre 1, Zao (pre ++ tl M)] (.tuple #[]) [stM kk (M ++ bl s) (Zfg M s) 1, Zao (Zfg M s ++ tl (M ++ bl s))] := by
 have h := Z26 (G := G) kk hG (Zna kk M) pre (tl M) (tl M ++ bl s) s (BitVec.ofNat 64 M.length) rfl (by simp [Zkd]; omega)
 have hk : 64 * (M.length / 64) ≤ M.length := by omega
 have hl : (tl M ++ bl s).length = M.length - 64 * (M.length / 64) + s.size := by simp [Zvh, Zkd]
 have hL : (M ++ bl s).length = M.length + s.size := by simp [Zkd]
 have hq : (M ++ bl s).length / 64 = M.length / 64 + (tl M ++ bl s).length / 64 := by rw [hl, hL]; omega
 have hd : tl (M ++ bl s) = (tl M ++ bl s).drop (64 * ((tl M ++ bl s).length / 64)) := by
  have e1 : tl M ++ bl s = (M ++ bl s).drop (64 * (M.length / 64)) := by unfold tl; rw [List.drop_append_of_le_length hk]
  rw [e1, List.drop_drop, ← e1]
  unfold tl
  congr 1
  rw [hq]; unfold tl; omega
 have hp : (Zfg M s).length = 64 * ((tl M ++ bl s).length / 64) := by unfold Zfg; rw [List.length_take]; omega
 have e1 : Zl6 kk (Zna kk M) (tl M ++ bl s) ((tl M ++ bl s).length / 64) = Zna kk (M ++ bl s) := by rw [Zrv]; unfold Zna; rw [hq]
 have e2 : Zfg M s ++ tl (M ++ bl s) = tl M ++ bl s := by rw [hd]; exact List.take_append_drop _ _
 have e3 : (tl (M ++ bl s)).length = (tl M ++ bl s).length - 64 * ((tl M ++ bl s).length / 64) := by rw [hd, List.length_drop]
 have e4 : BitVec.ofNat 64 M.length + BitVec.ofInt 64 s.size = BitVec.ofNat 64 (M ++ bl s).length := by rw [hL, BitVec.ofInt_natCast, BitVec.ofNat_add]
 rw [e1, e4, ← e3, ← hp, ← e2] at h
 exact h
end Go.Flat
end
section
namespace Go.Flat
open Go.Proofs
variable {G : Glob}
def Zj7 (ps : List ByteArray) : Blk := { cells := ps.map Value.string, sz := 1, wr := false, fix := false, mv := true, pur := true }
def dgB (d : Nat → BitVec 8) : Blk := { cells := Zah w8 32 d, sz := 32, wr := true, fix := true, mv := false, pur := true }
def Zd2 (ps : List ByteArray) : Bs := (ps.map bl).flatten
def Zys (n : BitVec 64) (i : Nat) : BitVec 8 := (n >>> (56 - 8 * (i : Int)).toNat).setWidth 8
def Z5r (r : Nat) : Bs := (128 : BitVec 8) :: List.replicate ((119 - r) % 64) 0
def Z0a (r : Nat) (n : BitVec 64) : Nat → Bs
  | 0 => Z5r r
  | i + 1 => Z0a r n i ++ [Zys n i]
def Z64 (v : Nat → BitVec 32) (i : Nat) : BitVec 8 := (v (i / 4) >>> (24 - (i : Int) % 4 * 8).toNat).setWidth 8
def Ztk (v : Nat → BitVec 32) : Nat → Nat → BitVec 8
  | 0 => fun _ => 0
  | i + 1 => Zhb (Ztk v i) i (Z64 v i)
def Z2j (M : Bs) : BitVec 64 := BitVec.ofNat 64 M.length * BitVec.ofInt 64 8
def Zfa (M : Bs) (i : Nat) : Bs := Z0a (tl M).length (Z2j M) i
def Zct (kk : Nat → BitVec 32) (M : Bs) : Nat → BitVec 8 := Ztk (Zna kk (M ++ Zfa M 8)) 32
theorem Zs7 (r : Nat) (n : BitVec 64) : ∀ i, (Z0a r n i).length = 1 + (119 - r) % 64 + i
 | 0 => by simp [Z0a, Z5r]; omega
 | i + 1 => by simp [Z0a, Zs7 r n i]; omega
def Zo (l : Bs) : ByteArray := ⟨(l.map UInt8.ofBitVec).toArray⟩
theorem Zrz (l : Bs) : bl (Zo l) = l := by
 unfold bl Zo
 simp only [List.map_map]
 have : (UInt8.toBitVec ∘ UInt8.ofBitVec) = (id : BitVec 8 → BitVec 8) := rfl
 rw [this, List.map_id]
theorem Zcc (l : Bs) : (Zo l).size = l.length := by rw [← Zkd, Zrz]

set_option maxHeartbeats 4000000 in
theorem Zyf (kk : Nat → BitVec 32) (hG : G 0 = some (Zah w32 64 kk)) (ps : List ByteArray) (c : Nat) (hn : ps.length ≤ 1000000) (hs : ∀ s, s ∈ ps → s.size ≤ 70368744177664) :
  Z6 Tryd.prog G 48 [slv 0 0 ps.length c] [Zj7 ps] (.agg (Zah w8 32 (Zct kk (Zd2 ps))).toArray) [Zj7 ps] := by
 refine Zbh (fn := Tryd.f48) (nt := 67) rfl rfl rfl rfl ?_
 refine Zaf 6 (H' := [Zj7 ps, hole, hole, hole, hole, hole, hole]) rfl ?_
 repeat (first
  | ((with_reducible apply Zcg); rfl; rfl; (first
  | exact (rfl : _ = Value.int _ _)
  | exact (rfl : _ = Value.slice _ _ _)))
  | ((with_reducible apply Ziz); rfl; rfl; (exact (rfl : _ = Value.slice _ _ _)); (exact (rfl : _ = some (Value.int _ _))))
  | ((with_reducible apply Zc0); rfl; exact (rfl : _ = Value.pointer (some ⟨_, _, _⟩)); (exact (rfl : _ = Value.agg _)); (rfl); exact (rfl : _ = _ :: _))
  | ((with_reducible apply Zew (nid := 1)); rfl; rfl; rfl; exact (rfl : _ = _ :: _))
  | ((with_reducible apply Zew (nid := 2)); rfl; rfl; rfl; exact (rfl : _ = _ :: _))
  | ((with_reducible apply Zs (Zyq)); rfl; rfl; rfl; rfl; rfl; (exact (rfl : _ = Value.agg _)))
  | with_reducible refine Za ?_
  | with_reducible refine Zg ?_
  | with_reducible refine Zf ?_
  | with_reducible refine Z8 ?_
  | with_reducible refine Zc ?_)
 refine Zca (Za7.nilCell (k := 2) (j := 8) (b := 3) true 1 rfl (by decide) rfl (by show 0 < 10; decide) rfl rfl) ?_
 refine Zbt (fun x : Nat × Bs => [dead, dead, pt 1 0, pt 2 0] ++ List.replicate 8 dead ++ [slv 0 0 ps.length c, Iv ps.length, Iv (x.1 : Nat)])
  (fun x => [Zj7 ps, dgB (fun _ => 0), stM kk (Zd2 (ps.take x.1)) x.2 3, Zao (x.2 ++ tl (Zd2 (ps.take x.1))), hole, hole, hole]) (fun x => x.1 ≤ ps.length) (fun x => ps.length - x.1) (0, []) (by simp) ?_ ?_
 ·refine Zaj (n := 7) rfl ?_ ?_ rfl
  repeat (first | exact trivial | refine ⟨.inl rfl, ?_⟩ | refine ⟨.inr ⟨rfl, rfl⟩, ?_⟩)
  ·show _ = [Zj7 ps, dgB (fun _ => 0), stM kk (Zd2 (ps.take 0)) [] 3, Zao ([] ++ tl (Zd2 (ps.take 0))), hole, hole, hole]
   rw [show Zd2 (ps.take 0) = [] from by simp [Zd2]]
   rfl
 ·rintro ⟨i, pre⟩ hi
  dsimp only at hi ⊢
  by_cases hlt : i < ps.length
  ·have hM : Zd2 (ps.take (i + 1)) = Zd2 (ps.take i) ++ bl ps[i] := by
    unfold Zd2
    rw [List.take_add_one, List.map_append, List.flatten_append]
    simp [hlt]
   have hsz : (tl (Zd2 (ps.take i))).length + (ps[i]).size ≤ 140737488355328 := by
    have := hs ps[i] (List.getElem_mem hlt)
    rw [Zvh]; omega
   have hget : (Zj7 ps).cells[i]? = some (Value.string ps[i]) := by simp [Zj7, hlt]
   generalize hMi : Zd2 (ps.take i) = M at hM hsz
   repeat (first
    | ((with_reducible apply Zal); rfl; rfl; exact (rfl : _ = Value.pointer (some ⟨_, _, _⟩)); exact Zlh rfl rfl hget rfl)
    | ((with_reducible apply Zcp (e := [some (2, 0), some (3, 0)]) (nid := 0) (Ztx kk hG M pre ps[i] hsz)); rfl; rfl; rfl; rfl; rfl; rfl; refine ⟨⟨⟨rfl, rfl⟩, rfl, trivial⟩, ⟨Zad rfl rfl rfl (congrArg (fun q => Zah w32 8 (Zna kk M) ++ [slv 3 q (tl M).length (tl M).length, w64 (BitVec.ofNat 64 M.length)]) (Nat.zero_add _).symm), Zad rfl rfl rfl rfl, trivial⟩, rfl, rfl, rfl, Nat.le_refl _⟩; exact (rfl : _ = Value.tuple _); rfl; exact (rfl : _ = _ :: _))
    | ((with_reducible apply Zbo (j := i)); rfl; rfl; exact (rfl : _ = Value.slice (some ⟨_, _, _⟩) _ _); (exact (rfl : _ = Value.int _ _)); (exact (rfl : _ = some (_, 1))); omega; omega; omega)
    | ((with_reducible apply Zcg); rfl; rfl; (first
    | exact (rfl : _ = Value.int _ _)
    | exact (rfl : _ = Value.string _)))
    | ((with_reducible apply Zc7); rfl; rfl; (exact (rfl : _ = Value.string _)))
    | ((with_reducible apply Zl); rfl; rfl; (exact (rfl : _ = Value.int _ _)); (exact (rfl : _ = Value.int _ _)); (first
    | with_reducible exact Zck (by omega)
    | with_reducible exact Zak rfl (by omega) (by omega)))
    | with_reducible refine Za ?_
    | with_reducible refine Zg ?_
    | with_reducible refine Zf ?_
    | with_reducible refine Z8 ?_
    | with_reducible refine Zz ?_
    | with_reducible refine Zc ?_
    | with_reducible refine Z7 ?_
    | ((with_reducible apply Zy); rfl))
   refine Zag ⟨(i + 1, Zfg M ps[i]), by show i + 1 ≤ _; omega, by show _ - (i + 1) < _; omega, ?_⟩
   refine Zaj (n := 7) rfl ?_ ?_ rfl
   repeat (first | exact trivial | refine ⟨.inl rfl, ?_⟩ | refine ⟨.inr ⟨rfl, rfl⟩, ?_⟩)
   ·show _ = [Zj7 ps, dgB (fun _ => 0), stM kk (Zd2 (ps.take (i + 1))) (Zfg M ps[i]) 3, Zao (Zfg M ps[i] ++ tl (Zd2 (ps.take (i + 1)))), hole, hole, hole]
    rw [hM]
    exact congrArg (fun q => [Zj7 ps, dgB (fun _ => 0), stB (Zna kk (M ++ bl ps[i])) (slv 3 q (tl (M ++ bl ps[i])).length (tl (M ++ bl ps[i])).length) (w64 (BitVec.ofNat 64 (M ++ bl ps[i]).length)), Zao (Zfg M ps[i] ++ tl (M ++ bl ps[i])), hole, hole, hole]) (Nat.zero_add _)
  ·obtain rfl : i = ps.length := by omega
   rw [List.take_length]
   have htl : (tl (Zd2 ps)).length < 64 := by rw [Zvh]; omega
   generalize hMi : Zd2 ps = M at htl
   have hp : ∀ i, (Zfa M i).length = 1 + (119 - (tl M).length) % 64 + i := fun i => Zs7 _ _ i
   repeat (first
    | ((with_reducible apply Z4z (nid := 4)); rfl; rfl; exact (rfl : _ = Value.int _ _); exact (rfl : _ = Value.int _ _); exact Zz0 (n := (119 - (tl M).length) % 64 + 1) (c := 128) (rfl : _ = some (1, _, 1)) (by omega) rfl (by omega) (by decide) (by decide) rfl; exact (rfl : _ = _ :: _))
    | ((with_reducible apply Zc0); rfl; exact (rfl : _ = Value.pointer (some ⟨4, _, _⟩)); exact (rfl : _ = Value.int _ _); exact Zvg rfl rfl rfl (Z2w _ _) (by simp) rfl rfl; exact (rfl : _ = _ :: _))
    | ((with_reducible apply Zbo (j := 0)); rfl; rfl; exact (rfl : _ = Value.slice (some ⟨_, _, _⟩) _ _); (exact (rfl : _ = Value.int _ _)); (exact (rfl : _ = some (_, 1))); omega; omega; omega)
    | ((with_reducible apply Zcg); rfl; rfl; (first
    | exact (rfl : _ = Value.int _ _)
    | exact (rfl : _ = Value.slice _ _ _)))
    | ((with_reducible apply Zc7); rfl; rfl; (first
    | exact (rfl : _ = Value.int _ _)
    | exact (rfl : _ = Value.slice _ _ _)))
    | ((with_reducible apply Zl); rfl; rfl; (exact (rfl : _ = Value.int _ _)); (exact (rfl : _ = Value.int _ _)); (first
    | with_reducible exact Zcd (by omega)
    | with_reducible exact Zak rfl (by omega) (by omega)
    | with_reducible exact Zhh rfl (by omega) (by omega)
    | with_reducible exact Z3j (by first | exact ofI _ _ | rfl) (by first | exact ofI _ _ | rfl)
    | with_reducible exact Z0j (by omega) (by omega)))
    | ((with_reducible apply Zbl); rfl; rfl; exact (rfl : _ = Value.pointer (some ⟨_, _, _⟩)); (first
    | exact (rfl : _ = some 8)
    | exact (rfl : _ = some 9)); (exact Nat.zero_add _))
    | ((with_reducible apply Zal); rfl; rfl; exact (rfl : _ = Value.pointer (some ⟨_, _, _⟩)); (first
    | exact (rfl : _ = some (Value.int _ _))
    | exact (rfl : _ = some (Value.slice _ _ _))))
    | ((with_reducible apply Ziz); rfl; rfl; (exact (rfl : _ = Value.slice _ _ _)); (exact (rfl : _ = some (Value.int _ _))))
    | with_reducible refine Za ?_
    | with_reducible refine Zg ?_
    | with_reducible refine Zf ?_
    | with_reducible refine Z8 ?_
    | with_reducible refine Zbm ?_
    | with_reducible refine Zc ?_
    | with_reducible refine Zaq ?_
    | with_reducible refine Zax ?_
    | ((with_reducible apply Zu); rfl)
    | ((with_reducible apply Zav); rfl))
   refine Zbt (fun x : Nat × Nat => [dead, dead, pt 1 0, pt 2 0, dead, dead, w64 (Z2j M), slv 4 0 (Zfa M x.1).length x.2] ++ List.replicate 25 dead ++ [Iv (x.1 : Nat)])
    (fun x => [Zj7 ps, dgB (fun _ => 0), stM kk M pre 3, Zao (pre ++ tl M), Zao (Zfa M x.1)]) (fun x => x.1 ≤ 8) (fun x => 8 - x.1) (0, 128) (by show 0 ≤ 8; decide) ?_ ?_
   ·refine Zaj (n := 5) rfl ?_ ?_ rfl
    ·rw [show (Zfa M (0, 128).1).length = (119 - (tl M).length) % 64 + 1 from by rw [hp]; omega]
     repeat (first | exact trivial | refine ⟨.inl rfl, ?_⟩ | refine ⟨.inr ⟨rfl, rfl⟩, ?_⟩)
    ·exact congrArg (fun q => [Zj7 ps, dgB (fun _ => 0), stM kk M pre 3, Zao (pre ++ tl M), ({ cells := w8 128 :: q, sz := 1, wr := true, fix := false, mv := true, pur := true } : Blk)]) (show List.replicate ((119 - (tl M).length) % 64) (w8 0) = List.map w8 (List.replicate ((119 - (tl M).length) % 64) 0) from by rw [List.map_replicate])
   ·rintro ⟨i, cap⟩ hi8
    dsimp only at hi8 ⊢
    by_cases hl8 : i < 8
    ·have hpi := hp i
     have hpi1 := hp (i + 1)
     refine Zaf 1 (H' := [Zj7 ps, dgB (fun _ => 0), stM kk M pre 3, Zao (pre ++ tl M), Zao (Zfa M i), hole]) rfl ?_
     repeat (first
      | ((with_reducible apply Zep (nid := 5)); rfl; rfl; rfl; exact (rfl : _ = some (Value.slice _ _ _, _)); exact (rfl : _ = _ :: _))
      | ((with_reducible apply Zc6); rfl; rfl; rfl; exact .inl ⟨_, rfl⟩; exact (rfl : _ = Value.slice (some ⟨_, _, _⟩) _ _); exact (rfl : _ = Value.slice (some ⟨_, _, _⟩) _ _); exact Zfy (n' := (Zfa M (i + 1)).length) (rfl : _ = some (1, _, 1)) (rfl : _ = some (1, _)) rfl rfl rfl rfl rfl (by simp [Zao]) (by decide) (by omega) (by omega); rfl; exact (rfl : _ = _ :: _))
      | ((with_reducible apply Zcg); rfl; rfl; (first
      | exact (rfl : _ = Value.int _ _)
      | exact (rfl : _ = Value.slice _ _ _)))
      | ((with_reducible apply Zc7); rfl; rfl; (first
      | exact (rfl : _ = Value.int _ _)
      | exact (rfl : _ = Value.slice _ _ _)))
      | ((with_reducible apply Zl); rfl; rfl; (exact (rfl : _ = Value.int _ _)); (exact (rfl : _ = Value.int _ _)); (first
      | with_reducible exact Zck (by omega)
      | with_reducible exact Zak rfl (by omega) (by omega)
      | with_reducible exact Zhh rfl (by omega) (by omega)
      | with_reducible exact Zv0 rfl (by omega) (by omega)
      | with_reducible exact Z3q (by omega)))
      | ((with_reducible apply Zgj); rfl; rfl; (exact (rfl : _ = Value.int _ _)); (exact Zn4 rfl rfl (by first | exact Zlm _ | rfl)))
      | with_reducible refine Za ?_
      | with_reducible refine Zg ?_
      | with_reducible refine Zf ?_
      | with_reducible refine Z8 ?_
      | with_reducible refine Zz ?_
      | with_reducible refine Zc ?_
      | with_reducible refine Z7 ?_
      | ((with_reducible apply Zy); rfl))
     refine Zag ⟨(i + 1, (Zfa M (i + 1)).length), by show i + 1 ≤ 8; omega, by show 8 - (i + 1) < 8 - i; omega, ?_⟩
     refine Zaj (n := 5) rfl ?_ ?_ rfl
     repeat (first | exact trivial | refine ⟨.inl rfl, ?_⟩ | refine ⟨.inr ⟨rfl, rfl⟩, ?_⟩)
     ·have hq : List.take ((Zfa M i).length * 1) (List.drop 0 ((Zfa M i).map w8)) ++ [w8 (Zys (Z2j M) i)] = (Zfa M (i + 1)).map w8 := by
       rw [Nat.mul_one, List.drop_zero, List.take_of_length_le (by simp)]
       show _ = List.map w8 (Zfa M i ++ [Zys (Z2j M) i])
       rw [List.map_append]; rfl
      exact congrArg (fun q => [Zj7 ps, dgB (fun _ => 0), stM kk M pre 3, Zao (pre ++ tl M), ({ cells := q, sz := 1, wr := true, fix := false, mv := true, pur := true } : Blk)]) hq
    ·obtain rfl : i = 8 := by omega
     have hp8 := hp 8
     refine Zaf 1 (H' := [Zj7 ps, dgB (fun _ => 0), stM kk M pre 3, Zao (pre ++ tl M), Zao (Zfa M 8), hole]) rfl ?_
     have hS : bl (Zo (Zfa M 8)) = Zfa M 8 := Zrz _
     have hsz : (tl M).length + (Zo (Zfa M 8)).size ≤ 140737488355328 := by rw [Zcc]; omega
     repeat (first
      | ((with_reducible apply Zjm); rfl; rfl; exact (rfl : _ = Value.slice (some ⟨_, _, _⟩) _ _); exact Zha (l := Zfa M 8) rfl rfl rfl rfl (by simp [Zao]) (by show List.take (Zfa M 8).length (List.drop 0 ((Zfa M 8).map w8)) = _; rw [List.drop_zero, List.take_of_length_le (by simp)]))
      | ((with_reducible apply Zcp (e := [some (2, 0), some (3, 0)]) (nid := 0) (Ztx kk hG M pre (Zo (Zfa M 8)) hsz)); rfl; rfl; rfl; rfl; rfl; rfl; refine ⟨⟨⟨rfl, rfl⟩, rfl, trivial⟩, ⟨Zad rfl rfl rfl (congrArg (fun q => Zah w32 8 (Zna kk M) ++ [slv 3 q (tl M).length (tl M).length, w64 (BitVec.ofNat 64 M.length)]) (Nat.zero_add _).symm), Zad rfl rfl rfl rfl, trivial⟩, rfl, rfl, rfl, Nat.le_refl _⟩; exact (rfl : _ = Value.tuple _); rfl; exact (rfl : _ = _ :: _))
      | ((with_reducible apply Zcg); rfl; rfl; (first
      | exact (rfl : _ = Value.int _ _)
      | exact (rfl : _ = Value.slice _ _ _)))
      | ((with_reducible apply Zl); rfl; rfl; (exact (rfl : _ = Value.int _ _)); (exact (rfl : _ = Value.int _ _)); (with_reducible exact Zcd (by omega)))
      | ((with_reducible apply Zew (nid := 5)); rfl; rfl; rfl; exact (rfl : _ = _ :: _))
      | with_reducible refine Za ?_
      | with_reducible refine Zg ?_
      | with_reducible refine Zf ?_
      | with_reducible refine Z8 ?_
      | with_reducible refine Zbm ?_
      | with_reducible refine Zc ?_
      | with_reducible refine Zaq ?_
      | with_reducible refine Zax ?_
      | ((with_reducible apply Zu); rfl)
      | ((with_reducible apply Zav); rfl))
     generalize hV : Zna kk (M ++ bl (Zo (Zfa M 8))) = V
     refine Zbt (fun x : Nat => [dead, dead, pt 1 0, pt 2 0, dead, dead, dead, dead, dead, pt 5 0] ++ List.replicate 39 dead ++ [Iv (x : Nat)])
      (fun x : Nat => [Zj7 ps, dgB (fun _ => 0), stB V (slv 3 (0 + (Zfg M (Zo (Zfa M 8))).length) (tl (M ++ bl (Zo (Zfa M 8)))).length (tl (M ++ bl (Zo (Zfa M 8)))).length) (w64 (BitVec.ofNat 64 (M ++ bl (Zo (Zfa M 8))).length)), Zao (Zfg M (Zo (Zfa M 8)) ++ tl (M ++ bl (Zo (Zfa M 8)))), Zao (Zfa M 8), dgB (Ztk V x)]) (fun x => x ≤ 32) (fun x => 32 - x) 0 (by omega) ?_ ?_
     ·subst hV
      refine Zaj (n := 6) rfl ?_ rfl rfl
      repeat (first | exact trivial | refine ⟨.inl rfl, ?_⟩ | refine ⟨.inr ⟨rfl, rfl⟩, ?_⟩)
     ·intro x hx
      by_cases hl : x < 32
      repeat (first
       | ((with_reducible apply Zdn (j := x / 4)); rfl; rfl; exact (rfl : _ = Value.pointer (some ⟨_, _, _⟩)); (exact (rfl : _ = Value.int _ _)); (exact (rfl : _ = some (_, 1))); omega; omega; omega)
       | ((with_reducible apply Zdn (j := x)); rfl; rfl; exact (rfl : _ = Value.pointer (some ⟨_, _, _⟩)); (exact (rfl : _ = Value.int _ _)); (exact (rfl : _ = some (_, 1))); omega; omega; omega)
       | ((with_reducible apply Zcg); rfl; rfl; (exact (rfl : _ = Value.int _ _)))
       | ((with_reducible apply Zc7); rfl; rfl; (exact (rfl : _ = Value.int _ _)))
       | ((with_reducible apply Zl); rfl; rfl; (exact (rfl : _ = Value.int _ _)); (exact (rfl : _ = Value.int _ _)); (first
       | with_reducible exact Zck (by omega)
       | with_reducible exact Zak rfl (by omega) (by omega)
       | with_reducible exact Zhh rfl (by omega) (by omega)
       | with_reducible exact Zv0 rfl (by omega) (by omega)
       | with_reducible exact Z0u (by omega)
       | with_reducible exact Z3l (by omega) (by omega) (by omega)
       | with_reducible exact Z0j (by omega) (by omega)))
       | ((with_reducible apply Zgj); rfl; rfl; (exact (rfl : _ = Value.int _ _)); (exact Zn4 rfl rfl (by first | exact Zlm _ | rfl)))
       | ((with_reducible apply Zbl); rfl; rfl; exact (rfl : _ = Value.pointer (some ⟨_, _, _⟩)); (exact (rfl : _ = some 0)); (exact Nat.zero_add _))
       | ((with_reducible apply Zal); rfl; rfl; exact (rfl : _ = Value.pointer (some ⟨_, _, _⟩)); (exact Zoo rfl rfl rfl (by omega) (fun _ => rfl)))
       | ((with_reducible apply Zc0); rfl; exact (rfl : _ = Value.pointer (some ⟨_, _, _⟩)); (exact (rfl : _ = Value.int _ _)); (exact Zg9 rfl rfl rfl rfl rfl (by omega) rfl rfl); exact (rfl : _ = _ :: _))
       | with_reducible refine Za ?_
       | with_reducible refine Zg ?_
       | with_reducible refine Zf ?_
       | with_reducible refine Z8 ?_
       | with_reducible refine Zz ?_
       | with_reducible refine Zc ?_
       | with_reducible refine Z7 ?_
       | ((with_reducible apply Zy); rfl))
      refine Zag ⟨x + 1, by omega, by omega, ?_⟩
      refine Zaj (n := 6) rfl ?_ rfl rfl
      repeat (first | exact trivial | refine ⟨.inl rfl, ?_⟩ | refine ⟨.inr ⟨rfl, rfl⟩, ?_⟩)
      ·obtain rfl : x = 32 := by omega
       repeat (first
        | ((with_reducible apply Zl); rfl; rfl; (exact (rfl : _ = Value.int _ _)); (exact (rfl : _ = Value.int _ _)); (with_reducible exact Zcd (by omega)))
        | ((with_reducible apply Zal); rfl; rfl; exact (rfl : _ = Value.pointer (some ⟨_, _, _⟩)); (exact (rfl : _ = some (Value.agg _))))
        | ((with_reducible apply Zc0); rfl; exact (rfl : _ = Value.pointer (some ⟨_, _, _⟩)); (exact (rfl : _ = Value.agg _)); (rfl); exact (rfl : _ = _ :: _))
        | with_reducible refine Za ?_
        | with_reducible refine Zg ?_
        | with_reducible refine Zf ?_
        | with_reducible refine Zbm ?_
        | with_reducible refine Zr ?_
        | with_reducible refine Zc ?_
        | with_reducible refine Zaq ?_
        | with_reducible refine Zax ?_
        | ((with_reducible apply Zu); rfl)
        | ((with_reducible apply Zav); rfl))
       refine Zt ?_
       refine Zm (v := .agg (Zah w8 32 (Ztk V 32)).toArray) rfl rfl rfl rfl ?_
       subst hMi
       rw [hS] at hV
       subst hV
       exact Ze7 (Ze1 fun _ => rfl) rfl
end Go.Flat
end
section
namespace Go.Flat
open Go.Proofs
variable {G : Glob}
abbrev dgV (d : Nat → BitVec 8) : Value := .agg (Zah w8 32 d).toArray
def dgL (d : Nat → BitVec 8) : Bs := (List.range 32).map d
theorem Zju (d : Nat → BitVec 8) : (dgL d).length = 32 := by simp [dgL]
def Z2o : ByteArray := ⟨#[1]⟩
def Zol (kk : Nat → BitVec 32) (a b : Nat → BitVec 8) : Nat → BitVec 8 := Zct kk (Zd2 [Z2o, Zo (dgL a), Zo (dgL b)])
theorem Zrs (kk : Nat → BitVec 32) (hG : G 0 = some (Zah w32 64 kk)) : Z6 Tryd.prog G 33 [] [] (dgV (Zct kk [])) [] := by
 refine Zbh (fn := Tryd.f33) (nt := 2) rfl rfl rfl rfl ?_
 refine Zaf 1 (H' := [hole]) rfl ?_
 repeat (first
  | ((with_reducible apply Z5 (e := [none]) (nid := 0) (Zyf kk hG [] 0 (by decide) (by simp))); rfl; rfl; rfl; rfl; rfl; rfl; rfl; refine ⟨⟨⟨rfl, rfl, rfl, rfl⟩, trivial⟩, ⟨⟨rfl, rfl, by show 0 < 1; decide⟩, trivial⟩, rfl, rfl, rfl⟩; exact (rfl : _ = Value.agg _); exact (rfl : _ = _ :: _))
  | ((with_reducible apply Zc0); rfl; exact (rfl : _ = Value.pointer (some ⟨_, _, _⟩)); (exact (rfl : _ = Value.agg _)); (rfl); exact (rfl : _ = _ :: _))
  | ((with_reducible apply Zew (nid := 0)); rfl; rfl; rfl; exact (rfl : _ = _ :: _))
  | with_reducible refine Za ?_
  | with_reducible refine Zg ?_
  | with_reducible refine Zf ?_
  | with_reducible refine Zr ?_
  | with_reducible refine Zc ?_)
 refine Zt ?_
 refine Zkh (v := dgV (Zct kk [])) ?_ (Ze1 fun _ => rfl) rfl
 rfl
theorem Z1b (kk : Nat → BitVec 32) (hG : G 0 = some (Zah w32 64 kk)) (a b : Nat → BitVec 8) : Z6 Tryd.prog G 66 [dgV a, dgV b] [] (dgV (Zol kk a b)) [] := by
 refine Zbh (fn := Tryd.f66) (nt := 11) rfl rfl rfl rfl ?_
 refine Zaf 4 (H' := [hole, hole, hole, hole]) rfl ?_
 have h32 : ∀ d : Nat → BitVec 8, (Zo (dgL d)).size = 32 := fun d => by rw [Zcc, Zju]
 have hsz : ∀ s, s ∈ [Z2o, Zo (dgL a), Zo (dgL b)] → s.size ≤ 70368744177664 := by
  intro s hs
  simp only [List.mem_cons, List.not_mem_nil, or_false] at hs
  rcases hs with rfl | rfl | rfl
  ·show 1 ≤ 70368744177664; omega
  ·rw [h32]; omega
  ·rw [h32]; omega
 repeat (first
  | ((with_reducible apply Zjm); rfl; rfl; exact (rfl : _ = Value.slice (some ⟨_, _, _⟩) _ _); first | exact Zha (l := dgL a) rfl rfl rfl rfl (by show 0 + 32 ≤ 32; decide) rfl | exact Zha (l := dgL b) rfl rfl rfl rfl (by show 0 + 32 ≤ 32; decide) rfl)
  | ((with_reducible apply Zep (nid := 3)); rfl; rfl; rfl; exact (rfl : _ = some (Value.slice _ _ _, _)); exact (rfl : _ = _ :: _))
  | ((with_reducible apply Z5 (e := [some (3, 0)]) (nid := 0) (Zyf kk hG [Z2o, Zo (dgL a), Zo (dgL b)] 3 (by simp) hsz)); rfl; rfl; rfl; rfl; rfl; rfl; rfl; refine ⟨⟨⟨rfl, rfl, rfl, Nat.le_refl _, Nat.le_refl _⟩, trivial⟩, ⟨Zco rfl rfl (by show 0 + 3 ≤ 3; decide) rfl, trivial⟩, rfl, rfl, rfl⟩; exact (rfl : _ = Value.agg _); exact (rfl : _ = _ :: _))
  | ((with_reducible apply Zcz); rfl; rfl; (exact (rfl : _ = Value.pointer (some _))); rfl; rfl; (exact (rfl : _ = some (Value.slice (some ⟨_, _, _⟩) _ _))))
  | ((with_reducible apply Zc0); rfl; exact (rfl : _ = Value.pointer (some ⟨_, _, _⟩)); (exact (rfl : _ = Value.agg _)); (rfl); exact (rfl : _ = _ :: _))
  | ((with_reducible apply Z0i (nid := 0)); rfl; rfl; (exact (rfl : _ = Value.agg _)); rfl; exact (rfl : _ = _ :: _))
  | ((with_reducible apply Z0i (nid := 1)); rfl; rfl; (exact (rfl : _ = Value.agg _)); rfl; exact (rfl : _ = _ :: _))
  | ((with_reducible apply Zew (nid := 2)); rfl; rfl; rfl; exact (rfl : _ = _ :: _))
  | with_reducible refine Za ?_
  | with_reducible refine Zg ?_
  | with_reducible refine Zf ?_
  | with_reducible refine Zr ?_
  | with_reducible refine Zc ?_
  | (with_reducible refine Zdm (by kernel_rfl) ?_)
  | (with_reducible refine Zgh (by kernel_rfl) ?_))
 refine Zt ?_
 refine Zkh (v := dgV (Zol kk a b)) ?_ (Ze1 fun _ => rfl) rfl
 rfl
end Go.Flat
end
section
namespace Go.Flat
open Go.Proofs
variable {G : Glob}
end Go.Flat
end
section
namespace Go.Flat
open Go.Proofs
variable {G : Glob}
def Zjq (n : Int) : Int := if n < 2 then 0 else 2 ^ (Zqw (n - 1).toNat - 1)
end Go.Flat
end
section
namespace Go.Flat
open Go.Proofs
variable {G : Glob}
theorem Z1f (hG : G 2 = some (Zah u8N 64 dbF)) (n : Nat) (h0 : 0 < n) (h1 : n < 18446744073709551616) : Z6 Tryd.prog G 75 [w64 (BitVec.ofNat 64 n)] [] (Iv (tz n)) [] := by
 refine Zbh (fn := Tryd.f75) (nt := 14) rfl rfl rfl rfl ?_
 generalize hx : BitVec.ofNat 64 n = x
 have hx0 : x.toNat = n := by rw [← hx, BitVec.toNat_ofNat]; omega
 have e : (((x &&& -x) * BitVec.ofInt 64 285870213051353865) >>> Int.toNat 58).toNat = ((x &&& -x) * BitVec.ofInt 64 285870213051353865).toNat / 288230376151711744 := by rw [Z22]; rfl
 have hl := ((x &&& -x) * BitVec.ofInt 64 285870213051353865).isLt
 have hb := Z37 (((x &&& -x) * BitVec.ofInt 64 285870213051353865) >>> Int.toNat 58).toNat
 repeat (first
  | ((with_reducible apply Zfb); rfl; rfl; exact (rfl : _ = Value.int _ _); exact Z05 (ofI _ _))
  | ((with_reducible apply Zal); rfl; rfl; exact (rfl : _ = Value.pointer (some ⟨_, _, _⟩)); exact Zpj rfl hG (by omega) (fun _ => rfl))
  | ((with_reducible apply Zdn (j := (((x &&& -x) * BitVec.ofInt 64 285870213051353865) >>> Int.toNat 58).toNat)); rfl; rfl; exact (rfl : _ = Value.pointer (some ⟨_, _, _⟩)); (exact (rfl : _ = Value.int _ _)); (exact (rfl : _ = some (_, 1))); omega; omega; omega)
  | ((with_reducible apply Zcg); rfl; rfl; (exact (rfl : _ = Value.int _ _)))
  | ((with_reducible apply Zc7); rfl; rfl; (exact (rfl : _ = Value.int _ _)))
  | ((with_reducible apply Zl); rfl; rfl; (exact (rfl : _ = Value.int _ _)); (exact (rfl : _ = Value.int _ _)); (first
  | with_reducible exact Zef (by omega)
  | with_reducible exact Z3j (by first | exact ofI _ _ | rfl) (by first | exact ofI _ _ | rfl)
  | with_reducible exact Z3f (by first | exact ofI _ _ | rfl) (by first | exact ofI _ _ | rfl)
  | with_reducible exact Z3q (by omega)))
  | ((with_reducible apply Zgj); rfl; rfl; (exact (rfl : _ = Value.int _ _)); (exact Z5g rfl rfl (by omega) (by omega)))
  | with_reducible refine Za ?_
  | with_reducible refine Zg ?_
  | with_reducible refine Zf ?_
  | with_reducible refine Zz ?_
  | with_reducible refine Zr ?_
  | with_reducible refine Zc ?_
  | ((with_reducible apply Zu); rfl))
 refine Zt ?_
 refine Zkh (v := Iv _) rfl rfl ?_
 have := Z54 h0 (by omega)
 simp only [hx] at this
 rw [← this]
 rfl
theorem Z48 (hG : G 2 = some (Zah u8N 64 dbF)) (n : Nat) (h0 : 0 < n) (h1 : n < 18446744073709551616) : Z6 Tryd.prog G 67 [w64 (BitVec.ofNat 64 n)] [] (Iv (tz n)) [] := by
 refine Zbh (fn := Tryd.f67) (nt := 8) rfl rfl rfl rfl ?_
 repeat (first
  | ((with_reducible apply Zcg); rfl; rfl; (exact (rfl : _ = Value.int _ _)))
  | ((with_reducible apply Zc7); rfl; rfl; (exact (rfl : _ = Value.int _ _)))
  | ((with_reducible apply Zs (Z1f hG n h0 h1)); rfl; rfl; rfl; rfl; rfl; (exact (rfl : _ = Value.int _ _)))
  | with_reducible refine Za ?_
  | with_reducible refine Zg ?_
  | with_reducible refine Zf ?_
  | with_reducible refine Zz ?_
  | with_reducible refine Zr ?_
  | with_reducible refine Zc ?_
  | ((with_reducible apply Zu); rfl))
 refine Zt ?_
 exact Zkh (v := Iv _) rfl rfl rfl
end Go.Flat
end
section
namespace Go.Flat
open Go.Proofs
variable {G : Glob}
abbrev D := Nat → BitVec 8
def dsC (ds : List D) : List Value := (ds.map (Zah w8 32)).flatten
def dsB (ds : List D) : Blk := { cells := dsC ds, sz := 32, wr := true, fix := false, mv := true, pur := true }
def dsR (ds : List D) : Blk := { cells := dsC ds, sz := 32, wr := false, fix := false, mv := true, pur := true }
def Zpa (v : Value) : Blk := { cells := [v], sz := 1, wr := true, fix := true, mv := false, pur := false }
theorem Zgm (ds : List D) : (dsC ds).length = ds.length * 32 := by
 induction ds with
 | nil => rfl
 | cons d ds ih => simp only [dsC, List.map_cons, List.flatten_cons, List.length_append, Zcs, List.length_cons] at ih ⊢; omega
theorem Znn (p q : List D) : dsC (p ++ q) = dsC p ++ dsC q := by simp [dsC]
theorem Zy3 (p q : List D) : (dsC (p ++ q)).drop (p.length * 32) = dsC q := by
 rw [Znn, List.drop_append_of_le_length (by rw [Zgm]; exact Nat.le_refl _), List.drop_of_length_le (by rw [Zgm]; exact Nat.le_refl _), List.nil_append]
theorem Zy4 (p q : List D) : (dsC (p ++ q)).take (p.length * 32) = dsC p := by
 rw [Znn, List.take_append_of_le_length (by rw [Zgm]; exact Nat.le_refl _), List.take_of_length_le (by rw [Zgm]; exact Nat.le_refl _)]
theorem Zn7 (d : D) (q : List D) : dsC (d :: q) = Zah w8 32 d ++ dsC q := by simp [dsC]
theorem Zue (p : List D) (a : D) (q : List D) : ((dsC (p ++ a :: q)).drop (p.length * 32)).take 32 = Zah w8 32 a := by
 rw [Zy3, Zn7, List.take_append_of_le_length (by rw [Zcs]; exact Nat.le_refl _), List.take_of_length_le (by rw [Zcs]; exact Nat.le_refl _)]
theorem Z12 (p : List D) (a b : D) (q : List D) : ((dsC (p ++ a :: b :: q)).drop ((p.length + 1) * 32)).take 32 = Zah w8 32 b := by
 have := Zue (p ++ [a]) b q
 simpa using this
set_option maxHeartbeats 4000000 in
theorem Zzn (kk : Nat → BitVec 32) (hG : G 0 = some (Zah w32 64 kk)) (p : List D) (a b : D) (hp : p.length ≤ 1000000) :
  Z6 Tryd.prog G 65 [pt 0 0] [Zpa (slv 1 0 (p.length + 2) (p.length + 2)), dsB (p ++ [a, b])] (.tuple #[]) [Zpa (slv 1 0 (p.length + 1) (p.length + 1)), dsB (p ++ [Zol kk a b])] := by
 refine Zbh (fn := Tryd.f65) (nt := 21) rfl rfl rfl rfl ?_
 refine Zaf 1 (H' := [Zpa (slv 1 0 (p.length + 2) (p.length + 2)), dsB (p ++ [a, b]), hole]) rfl ?_
 have hlen : (dsB (p ++ [a, b])).cells.length = (p.length + 2) * 32 := by show (dsC (p ++ [a, b])).length = _; rw [Zgm]; simp
 repeat (first
  | ((with_reducible apply Zcz); rfl; rfl; exact (rfl : _ = Value.slice (some ⟨_, _, _⟩) _ _); rfl; rfl; exact Zjp (h := p.length) rfl rfl (by omega) (by omega) rfl)
  | ((with_reducible apply Zal); rfl; rfl; exact (rfl : _ = Value.pointer (some ⟨1, _, _⟩)); first | exact Zgv (n := 32) rfl rfl (by omega) (Zue p a [b]) | exact Zgv (n := 32) rfl rfl (by omega) (Z12 p a b []))
  | ((with_reducible apply Zep (nid := 2)); rfl; rfl; rfl; exact (rfl : _ = some (Value.slice _ _ _, _)); exact (rfl : _ = _ :: _))
  | ((with_reducible apply Zc6); rfl; rfl; rfl; exact .inl ⟨_, rfl⟩; exact (rfl : _ = Value.slice (some ⟨_, _, _⟩) _ _); exact (rfl : _ = Value.slice (some ⟨_, _, _⟩) _ _); exact Zfy (n' := p.length + 1) (rfl : _ = some (32, _, 32)) (rfl : _ = some (1, _)) rfl rfl rfl rfl rfl (by rw [hlen]; omega) (by decide) rfl (by omega); rfl; exact (rfl : _ = _ :: _))
  | ((with_reducible apply Zbo (j := p.length * 32)); rfl; rfl; exact (rfl : _ = Value.slice (some ⟨_, _, _⟩) _ _); (exact (rfl : _ = Value.int _ _)); (exact (rfl : _ = some (_, 32))); omega; omega; omega)
  | ((with_reducible apply Zbo (j := (p.length + 1) * 32)); rfl; rfl; exact (rfl : _ = Value.slice (some ⟨_, _, _⟩) _ _); (exact (rfl : _ = Value.int _ _)); (exact (rfl : _ = some (_, 32))); omega; omega; omega)
  | ((with_reducible apply Zcg); rfl; rfl; (exact (rfl : _ = Value.int _ _)))
  | ((with_reducible apply Zc7); rfl; rfl; (exact (rfl : _ = Value.int _ _)))
  | ((with_reducible apply Zl); rfl; rfl; (exact (rfl : _ = Value.int _ _)); (exact (rfl : _ = Value.int _ _)); (with_reducible exact Zhh rfl (by omega) (by omega)))
  | ((with_reducible apply Zal); rfl; rfl; exact (rfl : _ = Value.pointer (some ⟨_, _, _⟩)); (exact (rfl : _ = some (Value.slice _ _ _))))
  | ((with_reducible apply Ziz); rfl; rfl; (exact (rfl : _ = Value.slice _ _ _)); (exact (rfl : _ = some (Value.int _ _))))
  | ((with_reducible apply Zc0); rfl; exact (rfl : _ = Value.pointer (some ⟨_, _, _⟩)); (exact (rfl : _ = Value.slice _ _ _)); (rfl); exact (rfl : _ = _ :: _))
  | ((with_reducible apply Zs (Z1b kk hG a b)); rfl; rfl; rfl; rfl; rfl; (exact (rfl : _ = Value.agg _)))
  | with_reducible refine Za ?_
  | with_reducible refine Zg ?_
  | with_reducible refine Zf ?_
  | with_reducible refine Zc ?_
  | (with_reducible refine Zdm (by kernel_rfl) ?_)
  | (with_reducible refine Zgh (by kernel_rfl) ?_))
 refine Zkr ?_
 refine Zm (v := .tuple #[]) rfl ?_ rfl ?_ trivial
 ·have hq : List.take (p.length * 32) (List.drop 0 (dsC (p ++ [a, b]))) ++ Zah w8 32 (Zol kk a b) = dsC (p ++ [Zol kk a b]) := by
   rw [List.drop_zero, Zy4, Znn, Zn7]; simp [dsC]
  exact congrArg (fun q => [Zpa (slv 1 0 (p.length + 1) (p.length + 1)), ({ cells := q, sz := 32, wr := true, fix := false, mv := true, pur := true } : Blk)]) hq
 ·rfl
end Go.Flat
end
section
namespace Go.Flat
open Go.Proofs
variable {G : Glob}
def d0 : D := fun _ => 0
def Zom (kk : Nat → BitVec 32) (P : List D) : List D := P.take (P.length - 2) ++ [Zol kk (P.getD (P.length - 2) d0) (P.getD (P.length - 1) d0)]
def Zfu (kk : Nat → BitVec 32) : Nat → List D → List D
  | 0, P => P
  | n + 1, P => Zom kk (Zfu kk n P)
def Zlp (kk : Nat → BitVec 32) (ds : List D) : Nat → List D
  | 0 => []
  | i + 1 => Zfu kk (tz (i + 1)) (Zlp kk ds i ++ [ds.getD i d0])
theorem Zqa (kk : Nat → BitVec 32) {P : List D} (h : 2 ≤ P.length) : (Zom kk P).length = P.length - 1 := by simp [Zom]; omega
theorem Zjz (kk : Nat → BitVec 32) {P : List D} : ∀ n, n + 1 ≤ P.length → (Zfu kk n P).length = P.length - n
 | 0, _ => rfl
 | n + 1, h => by
  have := Zjz kk (P := P) n (by omega)
  simp only [Zfu]
  rw [Zqa kk (by omega), this]; omega
theorem Zmo (kk : Nat → BitVec 32) (ds : List D) : ∀ i, (Zlp kk ds i).length = Zmk i
 | 0 => rfl
 | i + 1 => by
  have h1 := Zmo kk ds i
  have h2 := (Zra i).1
  simp only [Zlp, Zmk]
  rw [Zjz kk _ (by simp; omega)]
  simp; omega
def Zfk (kk : Nat → BitVec 32) (ds : List D) : D := if ds.length = 0 then Zct kk [] else (Zfu kk (Zmk ds.length - 1) (Zlp kk ds ds.length)).getD 0 d0
theorem Z03 {P : List D} (h : 2 ≤ P.length) : P = P.take (P.length - 2) ++ [P.getD (P.length - 2) d0, P.getD (P.length - 1) d0] := by
 apply List.ext_getElem?
 intro i
 have hl : (P.take (P.length - 2)).length = P.length - 2 := by simp
 rcases Nat.lt_or_ge i (P.length - 2) with h1 | h1
 ·rw [List.getElem?_append_left (by omega), List.getElem?_take, if_pos h1]
 ·rw [List.getElem?_append_right (by omega), hl]
  rcases Nat.lt_or_ge i P.length with h2 | h2
  ·rcases Nat.eq_or_lt_of_le h1 with h3 | h3
   ·subst h3; simp [List.getD_eq_getElem?_getD]; rw [List.getElem?_eq_getElem (by omega)]; simp
   ·have : i = P.length - 1 := by omega
    subst this
    have e : P.length - 1 - (P.length - 2) = 1 := by omega
    rw [e]
    simp [List.getD_eq_getElem?_getD]; rw [List.getElem?_eq_getElem (by omega)]; simp
  ·rw [List.getElem?_eq_none h2, List.getElem?_eq_none (by simp; omega)]
theorem Zp9 (kk : Nat → BitVec 32) (hG : G 0 = some (Zah w32 64 kk)) (P : List D) (h2 : 2 ≤ P.length) (hp : P.length ≤ 1000000) :
  Z6 Tryd.prog G 65 [pt 0 0] [Zpa (slv 1 0 P.length P.length), dsB P] (.tuple #[]) [Zpa (slv 1 0 (Zom kk P).length (Zom kk P).length), dsB (Zom kk P)] := by
 have h := Zzn (G := G) kk hG (P.take (P.length - 2)) (P.getD (P.length - 2) d0) (P.getD (P.length - 1) d0) (by simp; omega)
 rw [← Z03 h2] at h
 have e1 : (P.take (P.length - 2)).length + 2 = P.length := by simp; omega
 have e2 : (P.take (P.length - 2)).length + 1 = (Zom kk P).length := by rw [Zqa kk h2]; simp; omega
 rw [e1, e2] at h
 exact h
end Go.Flat
end
section
namespace Go.Flat
open Go.Proofs
variable {G : Glob}
theorem Zv8 (ds : List D) (i : Nat) (h : i < ds.length) : ((dsC ds).drop (i * 32)).take 32 = Zah w8 32 (ds.getD i d0) := by
 have e : ds = ds.take i ++ ds[i] :: ds.drop (i + 1) := by rw [← List.drop_eq_getElem_cons h, List.take_append_drop]
 have h2 := Zue (ds.take i) ds[i] (ds.drop (i + 1))
 rw [← e] at h2
 rw [show (ds.take i).length = i from by simp; omega] at h2
 rw [h2]
 congr 1
 simp [List.getD_eq_getElem?_getD, h]
set_option maxHeartbeats 8000000 in
theorem Z1e (kk : Nat → BitVec 32) (hG : G 0 = some (Zah w32 64 kk)) (hG1 : G 2 = some (Zah u8N 64 dbF)) (ds : List D) (c : Nat) (hn : ds.length ≤ 1000000) (hc : ds.length ≤ c) :
  Z6 Tryd.prog G 52 [slv 0 0 ds.length c] [dsR ds] (dgV (Zfk kk ds)) [dsR ds] := by
 refine Zbh (fn := Tryd.f52) (nt := 41) rfl rfl rfl rfl ?_
 have hR : (dsR ds).cells.length = ds.length * 32 := Zgm ds
 by_cases h0 : ds.length = 0
 ·refine Zaf 1 (H' := [dsR ds, hole]) rfl ?_
  repeat (first
   | ((with_reducible apply Zcg); rfl; rfl; (exact (rfl : _ = Value.slice _ _ _)))
   | ((with_reducible apply Zl); rfl; rfl; (exact (rfl : _ = Value.int _ _)); (exact (rfl : _ = Value.int _ _)); (with_reducible exact Zdp (by omega)))
   | ((with_reducible apply Ziz); rfl; rfl; (exact (rfl : _ = Value.slice _ _ _)); (exact (rfl : _ = some (Value.int _ _))))
   | ((with_reducible apply Zc0); rfl; exact (rfl : _ = Value.pointer (some ⟨_, _, _⟩)); (exact (rfl : _ = Value.agg _)); (rfl); exact (rfl : _ = _ :: _))
   | ((with_reducible apply Zew (nid := 1)); rfl; rfl; rfl; exact (rfl : _ = _ :: _))
   | ((with_reducible apply Zs (Zrs kk hG)); rfl; rfl; rfl; rfl; rfl; (exact (rfl : _ = Value.agg _)))
   | with_reducible refine Za ?_
   | with_reducible refine Zg ?_
   | with_reducible refine Zf ?_
   | with_reducible refine Zr ?_
   | with_reducible refine Zc ?_
   | with_reducible refine Z2 ?_
   | ((with_reducible apply Zy); rfl))
  refine Zt ?_
  refine Zm (v := dgV (Zct kk [])) rfl rfl rfl ?_ ?_
  ·simp [Zbe, dsR]
  ·exact Ze7 (Ze1 fun _ => rfl) (by unfold Zfk; rw [if_pos h0])
 ·refine Zaf 2 (H' := [dsR ds, hole, hole]) rfl ?_
  repeat (first
   | ((with_reducible apply Zcg); rfl; rfl; (first
   | exact (rfl : _ = Value.int _ _)
   | exact (rfl : _ = Value.slice _ _ _)))
   | ((with_reducible apply Zc7); rfl; rfl; (exact (rfl : _ = Value.func _ _ _)))
   | ((with_reducible apply Zl); rfl; rfl; (exact (rfl : _ = Value.int _ _)); (exact (rfl : _ = Value.int _ _)); (with_reducible exact Zef (by omega)))
   | ((with_reducible apply Zgw); rfl; rfl; (exact (rfl : _ = [])); (exact (rfl : _ = [_])); rfl)
   | ((with_reducible apply Ziz); rfl; rfl; (exact (rfl : _ = Value.slice _ _ _)); (exact (rfl : _ = some (Value.int _ _))))
   | ((with_reducible apply Zew (nid := 1)); rfl; rfl; rfl; exact (rfl : _ = _ :: _))
   | ((with_reducible apply Zew (nid := 2)); rfl; rfl; rfl; exact (rfl : _ = _ :: _))
   | with_reducible refine Za ?_
   | with_reducible refine Zg ?_
   | with_reducible refine Zf ?_
   | with_reducible refine Z8 ?_
   | with_reducible refine Zz ?_
   | with_reducible refine Zc ?_
   | ((with_reducible apply Zu); rfl))
  refine Zca (Za7.nilCell (k := 2) (j := 0) (b := 3) true 32 rfl (by decide) rfl (by show 0 < 1; decide) rfl rfl) ?_
  refine Zbt (fun i : Nat => [dead, dead, pt 1 0, pt 2 0, .func (.func 65) #[] #[pt 2 0]] ++ List.replicate 7 dead ++ [slv 0 0 ds.length c, Iv ds.length, Iv (i : Nat)])
   (fun i => [dsR ds, dgB (fun _ => 0), Zpa (slv 3 0 (Zlp kk ds i).length (Zlp kk ds i).length), dsB (Zlp kk ds i)]) (fun i => i ≤ ds.length) (fun i => ds.length - i) 0 (by omega) ?_ ?_
  ·refine Zaj (n := 4) rfl ?_ rfl rfl
   repeat (first | exact trivial | refine ⟨.inl rfl, ?_⟩ | refine ⟨.inr ⟨rfl, rfl⟩, ?_⟩)
  ·intro i hi
   by_cases hlt : i < ds.length
   ·have hpl := Zmo kk ds i
    obtain ⟨ok1, ok2, ok3⟩ := Zra i
    generalize hP : Zlp kk ds i = P at hpl
    have hPl : (P ++ [ds.getD i d0]).length = Zmk i + 1 := by simp [hpl]
    refine Zaf 2 (H' := [dsR ds, dgB (fun _ => 0), Zpa (slv 3 0 P.length P.length), dsB P, hole, hole]) rfl ?_
    have hBl : (dsB P).cells.length = P.length * 32 := Zgm P
    have htz : (BitVec.ofInt 64 ((i : Int) + 1)) = BitVec.ofNat 64 (i + 1) := by rw [show ((i : Int) + 1) = ((i + 1 : Nat) : Int) from rfl, BitVec.ofInt_natCast]
    repeat (first
     | ((with_reducible apply Zal); rfl; rfl; exact (rfl : _ = Value.pointer (some ⟨0, _, _⟩)); exact Zgv (n := 32) rfl rfl (by omega) (Zv8 ds i hlt))
     | ((with_reducible apply Zep (nid := 5)); rfl; rfl; rfl; exact (rfl : _ = some (Value.slice _ _ _, _)); exact (rfl : _ = _ :: _))
     | ((with_reducible apply Zc6); rfl; rfl; rfl; exact .inl ⟨_, rfl⟩; exact (rfl : _ = Value.slice (some ⟨_, _, _⟩) _ _); exact (rfl : _ = Value.slice (some ⟨_, _, _⟩) _ _); exact Zfy (n' := (P ++ [ds.getD i d0]).length) (rfl : _ = some (32, _, 32)) (rfl : _ = some (1, _)) rfl rfl rfl rfl rfl (by rw [hBl]; omega) (by decide) (by simp) (by omega); rfl; exact (rfl : _ = _ :: _))
     | ((with_reducible apply Zgj); rfl; rfl; exact (rfl : _ = Value.int _ _); exact Zud rfl rfl htz)
     | ((with_reducible apply Zbo (j := i * 32)); rfl; rfl; exact (rfl : _ = Value.slice (some ⟨_, _, _⟩) _ _); (exact (rfl : _ = Value.int _ _)); (exact (rfl : _ = some (_, 32))); omega; omega; omega)
     | ((with_reducible apply Zcg); rfl; rfl; (exact (rfl : _ = Value.int _ _)))
     | ((with_reducible apply Zc7); rfl; rfl; (exact (rfl : _ = Value.int _ _)))
     | ((with_reducible apply Zl); rfl; rfl; (exact (rfl : _ = Value.int _ _)); (exact (rfl : _ = Value.int _ _)); (first
     | with_reducible exact Zck (by omega)
     | with_reducible exact Zak rfl (by omega) (by omega)))
     | ((with_reducible apply Zal); rfl; rfl; exact (rfl : _ = Value.pointer (some ⟨_, _, _⟩)); (first
     | exact (rfl : _ = some (Value.slice _ _ _))
     | exact (rfl : _ = some (Value.agg _))))
     | ((with_reducible apply Zc0); rfl; exact (rfl : _ = Value.pointer (some ⟨_, _, _⟩)); (first
     | exact (rfl : _ = Value.slice _ _ _)
     | exact (rfl : _ = Value.agg _)); (rfl); exact (rfl : _ = _ :: _))
     | ((with_reducible apply Zew (nid := 4)); rfl; rfl; rfl; exact (rfl : _ = _ :: _))
     | ((with_reducible apply Zs (Z48 hG1 (i + 1) (by omega) (by omega))); rfl; rfl; rfl; rfl; rfl; (exact (rfl : _ = Value.int _ _)))
     | with_reducible refine Za ?_
     | with_reducible refine Zg ?_
     | with_reducible refine Zf ?_
     | with_reducible refine Z8 ?_
     | with_reducible refine Zz ?_
     | with_reducible refine Zc ?_
     | ((with_reducible apply Zy); rfl))
    have hcat : List.take (P.length * 32) (List.drop 0 (dsC P)) ++ Zah w8 32 (ds.getD i d0) = dsC (P ++ [ds.getD i d0]) := by
     rw [List.drop_zero, List.take_of_length_le (by rw [Zgm]; exact Nat.le_refl _), Znn, Zn7]; simp [dsC]
    refine Zbt (fun t : Nat => [dead, dead, pt 1 0, pt 2 0, .func (.func 65) #[] #[pt 2 0]] ++ List.replicate 7 dead ++ [slv 0 0 ds.length c, Iv ds.length, Iv (i : Nat)] ++ List.replicate 11 dead ++ [Iv (tz (i + 1)), Iv (t : Nat)])
     (fun t => [dsR ds, dgB (fun _ => 0), Zpa (slv 3 0 (Zfu kk t (P ++ [ds.getD i d0])).length (Zfu kk t (P ++ [ds.getD i d0])).length), dsB (Zfu kk t (P ++ [ds.getD i d0])), dgB (ds.getD i d0)]) (fun t => t ≤ tz (i + 1)) (fun t => tz (i + 1) - t) 0 (by omega) ?_ ?_
    ·refine Zaj (n := 5) rfl ?_ ?_ rfl
     repeat (first | exact trivial | refine ⟨.inl rfl, ?_⟩ | refine ⟨.inr ⟨rfl, rfl⟩, ?_⟩)
     ·exact congrArg (fun q => [dsR ds, dgB (fun _ => 0), Zpa (slv 3 0 (P ++ [ds.getD i d0]).length (P ++ [ds.getD i d0]).length), ({ cells := q, sz := 32, wr := true, fix := false, mv := true, pur := true } : Blk), dgB (ds.getD i d0)]) hcat
    ·intro t ht
     have hQl := Zjz kk (P := P ++ [ds.getD i d0]) t (by omega)
     by_cases hlt2 : t < tz (i + 1)
     ·generalize hQ : Zfu kk t (P ++ [ds.getD i d0]) = Q at hQl
      repeat (first
       | ((with_reducible apply Zcp (e := [some (2, 0), some (3, 0)]) (nid := 0) (Zp9 kk hG Q (by omega) (by omega))); rfl; rfl; rfl; rfl; rfl; rfl; refine ⟨⟨⟨rfl, rfl⟩, trivial⟩, ⟨Zad rfl rfl rfl rfl, Zad rfl rfl rfl rfl, trivial⟩, rfl, rfl, rfl, Nat.le_refl _⟩; exact (rfl : _ = Value.tuple _); rfl; exact (rfl : _ = _ :: _))
       | ((with_reducible apply Zcg); rfl; rfl; (first
       | exact (rfl : _ = Value.int _ _)
       | exact (rfl : _ = Value.func _ _ _)))
       | ((with_reducible apply Zl); rfl; rfl; (exact (rfl : _ = Value.int _ _)); (exact (rfl : _ = Value.int _ _)); (first
       | with_reducible exact Zck (by omega)
       | with_reducible exact Zak rfl (by omega) (by omega)))
       | with_reducible refine Za ?_
       | with_reducible refine Zg ?_
       | with_reducible refine Zf ?_
       | with_reducible refine Z8 ?_
       | with_reducible refine Zz ?_
       | with_reducible refine Zc ?_
       | with_reducible refine Z7 ?_
       | ((with_reducible apply Zy); rfl))
      subst hQ
      refine Zag ⟨t + 1, by omega, by omega, ?_⟩
      refine Zaj (n := 5) rfl ?_ rfl rfl
      repeat (first | exact trivial | refine ⟨.inl rfl, ?_⟩ | refine ⟨.inr ⟨rfl, rfl⟩, ?_⟩)
     ·obtain rfl : t = tz (i + 1) := by omega
      repeat (first
       | ((with_reducible apply Zcg); rfl; rfl; (exact (rfl : _ = Value.int _ _)))
       | ((with_reducible apply Zl); rfl; rfl; (exact (rfl : _ = Value.int _ _)); (exact (rfl : _ = Value.int _ _)); (first
       | with_reducible exact Zcd (by omega)
       | with_reducible exact Zak rfl (by omega) (by omega)))
       | with_reducible refine Za ?_
       | with_reducible refine Zg ?_
       | with_reducible refine Zf ?_
       | with_reducible refine Zbm ?_
       | with_reducible refine Zc ?_
       | with_reducible refine Zaq ?_
       | with_reducible refine Z7 ?_
       | with_reducible refine Zax ?_
       | ((with_reducible apply Zu); rfl)
       | ((with_reducible apply Zav); rfl))
      subst hP
      refine Zag ⟨i + 1, by omega, by omega, ?_⟩
      refine Zaj (n := 4) rfl ?_ rfl rfl
      repeat (first | exact trivial | refine ⟨.inl rfl, ?_⟩ | refine ⟨.inr ⟨rfl, rfl⟩, ?_⟩)
   ·obtain rfl : i = ds.length := by omega
    have hpl := Zmo kk ds ds.length
    obtain ⟨ok1, ok2, ok3⟩ := Zra (ds.length - 1)
    rw [show ds.length - 1 + 1 = ds.length from by omega] at ok2
    have hle : Zmk ds.length ≤ ds.length := by
     exact Zq9 _
    generalize hP : Zlp kk ds ds.length = P at hpl
    repeat (first
     | ((with_reducible apply Zl); rfl; rfl; (exact (rfl : _ = Value.int _ _)); (exact (rfl : _ = Value.int _ _)); (with_reducible exact Zcd (by omega)))
     | with_reducible refine Za ?_
     | with_reducible refine Zg ?_
     | with_reducible refine Zf ?_
     | with_reducible refine Z8 ?_
     | with_reducible refine Zbm ?_
     | with_reducible refine Zc ?_
     | with_reducible refine Zaq ?_
     | with_reducible refine Zax ?_
     | ((with_reducible apply Zu); rfl)
     | ((with_reducible apply Zav); rfl))
    refine Zbt (fun t : Nat => [dead, dead, pt 1 0, pt 2 0, .func (.func 65) #[] #[pt 2 0]])
     (fun t => [dsR ds, dgB (fun _ => 0), Zpa (slv 3 0 (Zfu kk t P).length (Zfu kk t P).length), dsB (Zfu kk t P)]) (fun t => t + 1 ≤ P.length) (fun t => P.length - t) 0 (by omega) ?_ ?_
    ·subst hP
     refine Zaj (n := 4) rfl ?_ rfl rfl
     repeat (first | exact trivial | refine ⟨.inl rfl, ?_⟩ | refine ⟨.inr ⟨rfl, rfl⟩, ?_⟩)
    ·intro t ht
     have hQl := Zjz kk (P := P) t ht
     by_cases hlt2 : t + 2 ≤ P.length
     ·generalize hQ : Zfu kk t P = Q at hQl
      repeat (first
       | ((with_reducible apply Zcp (e := [some (2, 0), some (3, 0)]) (nid := 0) (Zp9 kk hG Q (by omega) (by omega))); rfl; rfl; rfl; rfl; rfl; rfl; refine ⟨⟨⟨rfl, rfl⟩, trivial⟩, ⟨Zad rfl rfl rfl rfl, Zad rfl rfl rfl rfl, trivial⟩, rfl, rfl, rfl, Nat.le_refl _⟩; exact (rfl : _ = Value.tuple _); rfl; exact (rfl : _ = _ :: _))
       | ((with_reducible apply Zcg); rfl; rfl; (exact (rfl : _ = Value.func _ _ _)))
       | ((with_reducible apply Zl); rfl; rfl; (exact (rfl : _ = Value.int _ _)); (exact (rfl : _ = Value.int _ _)); (with_reducible exact Zfs (by omega)))
       | ((with_reducible apply Zal); rfl; rfl; exact (rfl : _ = Value.pointer (some ⟨_, _, _⟩)); (exact (rfl : _ = some (Value.slice _ _ _))))
       | ((with_reducible apply Ziz); rfl; rfl; (exact (rfl : _ = Value.slice _ _ _)); (exact (rfl : _ = some (Value.int _ _))))
       | with_reducible refine Za ?_
       | with_reducible refine Zg ?_
       | with_reducible refine Zf ?_
       | with_reducible refine Z8 ?_
       | with_reducible refine Zz ?_
       | with_reducible refine Zc ?_
       | with_reducible refine Z7 ?_
       | ((with_reducible apply Zy); rfl))
      subst hQ
      refine Zag ⟨t + 1, by omega, by omega, ?_⟩
      refine Zaj (n := 4) rfl ?_ rfl rfl
      repeat (first | exact trivial | refine ⟨.inl rfl, ?_⟩ | refine ⟨.inr ⟨rfl, rfl⟩, ?_⟩)
     ·have ht1 : t = P.length - 1 := by omega
      have hQ1 : (Zfu kk t P).length = 1 := by omega
      have hroot : (Zfu kk t P).getD 0 d0 = Zfk kk ds := by
       unfold Zfk; rw [if_neg h0, hP, ← hpl, ← ht1]
      have hat := Zv8 (Zfu kk t P) 0 (by omega)
      rw [hroot] at hat
      have hBl : (dsB (Zfu kk t P)).cells.length = 32 := by show (dsC _).length = _; rw [Zgm, hQ1]
      generalize hQ : Zfu kk t P = Q at hQl hQ1 hat hBl
      repeat (first
       | ((with_reducible apply Zal); rfl; rfl; exact (rfl : _ = Value.pointer (some ⟨3, _, _⟩)); exact Zgv (n := 32) rfl rfl (by omega) hat)
       | ((with_reducible apply Zbo (j := 0)); rfl; rfl; exact (rfl : _ = Value.slice (some ⟨_, _, _⟩) _ _); (exact (rfl : _ = Value.int _ _)); (exact (rfl : _ = some (_, 32))); omega; omega; omega)
       | ((with_reducible apply Zl); rfl; rfl; (exact (rfl : _ = Value.int _ _)); (exact (rfl : _ = Value.int _ _)); (with_reducible exact Zfr (by omega)))
       | ((with_reducible apply Zal); rfl; rfl; exact (rfl : _ = Value.pointer (some ⟨_, _, _⟩)); (exact (rfl : _ = some (Value.slice _ _ _))))
       | ((with_reducible apply Ziz); rfl; rfl; (exact (rfl : _ = Value.slice _ _ _)); (exact (rfl : _ = some (Value.int _ _))))
       | ((with_reducible apply Zc0); rfl; exact (rfl : _ = Value.pointer (some ⟨_, _, _⟩)); (exact (rfl : _ = Value.agg _)); (rfl); exact (rfl : _ = _ :: _))
       | with_reducible refine Za ?_
       | with_reducible refine Zg ?_
       | with_reducible refine Zf ?_
       | with_reducible refine Zbm ?_
       | with_reducible refine Zr ?_
       | with_reducible refine Zc ?_
       | with_reducible refine Zaq ?_
       | with_reducible refine Zax ?_
       | ((with_reducible apply Zu); rfl)
       | ((with_reducible apply Zav); rfl))
      refine Zt ?_
      refine Zm (v := dgV (Zfk kk ds)) rfl rfl rfl ?_ ?_
      ·simp [Zbe, dsR]
      ·exact Ze7 (Ze1 fun _ => rfl) rfl
end Go.Flat
end
section
namespace Go.Flat
open Go.Proofs
variable {G : Glob}
def Z62 (us vs : List D) : Bool := us.length == vs.length && (List.range us.length).all fun i => Zfx 32 (us.getD i d0) (vs.getD i d0)
end Go.Flat
end
section
namespace Go.Flat
open Go.Proofs
variable {G : Glob}
def Z42 (P : List D) : Nat → List D
  | 0 => P
  | i + 1 => ((Z42 P i).set i ((Z42 P i).getD (P.length - 1 - i) d0)).set (P.length - 1 - i) ((Z42 P i).getD i d0)
def dsM (b : Bool) (ds : List D) : Blk := { cells := dsC ds, sz := 32, wr := true, fix := false, mv := b, pur := true }
end Go.Flat
end
section
namespace Go.Flat
open Go.Proofs
variable {G : Glob}
def Zzf (kk : Nat → BitVec 32) (f : Nat) (l : List D) (i : Nat) (down : List D) : List D :=
  match f with
  | 0 => down
  | f + 1 => if l.length ≤ 1 then down else
      let k := (Zjq l.length).toNat
      if i < k then Zzf kk f (l.take k) i (down ++ [Zfk kk (l.drop k)]) else Zzf kk f (l.drop k) (i - k) (down ++ [Zfk kk (l.take k)])
theorem Zve {n : Nat} (h : 2 ≤ n) : 1 ≤ (Zjq n).toNat ∧ (Zjq n).toNat < n ∧ Zjq n = ((Zjq n).toNat : Int) := by
 unfold Zjq
 rw [if_neg (by omega)]
 have hb : ((n : Int) - 1).toNat = n - 1 := by omega
 rw [hb]
 have h0 : n - 1 ≠ 0 := by omega
 have e : Zqw (n - 1) - 1 = (n - 1).log2 := by unfold Zqw; rw [if_neg h0]; rfl
 rw [e]
 have h1 := Nat.log2_self_le h0
 have h2 : (2 : Int) ^ (n - 1).log2 = ((2 ^ (n - 1).log2 : Nat) : Int) := by simp
 have h3 : 0 < 2 ^ (n - 1).log2 := Nat.pow_pos (by decide)
 rw [h2, Int.toNat_natCast]
 refine ⟨h3, by omega, rfl⟩
end Go.Flat
end
section
namespace Go.Flat
open Go.Proofs
variable {G : Glob}
def sub (ds : List D) (o m : Nat) : List D := (ds.drop o).take m
structure IncS where
  o : Nat
  m : Nat
  cap : Nat
  i : Nat
  f : Nat
  down : List D
end Go.Flat
end
section
namespace Go.Flat
open Go.Proofs
variable {G : Glob}
end Go.Flat
end
section
namespace Go.Flat
open Go.Proofs
variable {G : Glob}
def Zv3 (kk : Nat → BitVec 32) (f : Nat) (l : List D) (m : Nat) (kn : Bool) (down : List D) : List D :=
  match f with
  | 0 => if kn then down else down ++ [Zfk kk l]
  | f + 1 => if l.length ≤ m then (if kn then down else down ++ [Zfk kk l]) else
      let k := (Zjq l.length).toNat
      if m ≤ k then Zv3 kk f (l.take k) m kn (down ++ [Zfk kk (l.drop k)]) else Zv3 kk f (l.drop k) (m - k) false (down ++ [Zfk kk (l.take k)])
structure ConS where
  o : Nat
  m : Nat
  cap : Nat
  i : Nat
  kn : Bool
  f : Nat
  down : List D
end Go.Flat
end
section
namespace Go.Flat
open Go.Proofs
variable {G : Glob}
end Go.Flat
end
section
namespace Go.Flat
open Go.Proofs
variable {G : Glob}
def dg1 (k : Nat) : D := fun i => if i = 0 then BitVec.ofNat 8 k else 0
theorem Zw2 (ds : List D) : ((dsC ds).drop 0).take (dsC ds).length = dsC ds := by simp
theorem Z39 {H : List Blk} {e : Emb} {id : Nat} {ds : List D} (hB : H[id]? = some (dsB ds)) : Zd3 H e (some (id, 0)) (dsR ds) :=
 Zco hB rfl (by show 0 + (dsC _).length ≤ (dsC _).length; omega) (Zw2 _)
end Go.Flat
end
