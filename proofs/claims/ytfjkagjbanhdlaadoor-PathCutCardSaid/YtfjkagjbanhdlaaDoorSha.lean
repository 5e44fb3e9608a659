/- Walks. -/
import Derived.Test.YtfjkagjbanhdlaaDoorFlatC
import Derived.Test.YtfjkagjbanhdlaaDoorProg
set_option maxRecDepth 20000
set_option linter.unusedVariables false
set_option linter.unusedSimpArgs false
section
namespace Go.Flat
open Go.Proofs
variable {G : Glob}
def rot (x : BitVec 32) (n : Nat) : BitVec 32 := x <<< n ||| x >>> (32 - n)

theorem Z5e (k : Int) : (BitVec.ofInt 64 k &&& BitVec.ofInt 64 31).toNat = (k % 32).toNat := by
 have h31 : (BitVec.ofInt 64 31).toNat = 2 ^ 5 - 1 := rfl
 rw [BitVec.toNat_and, h31, Nat.and_two_pow_sub_one_eq_mod, BitVec.toNat_ofInt]
 omega
theorem Zyy (x : BitVec 32) (k : Int) : Z9 Tryd.prog G 74 [w32 x, Iv k] [] (w32 (rot x (k % 32).toNat)) [] := by
 refine Zbu (fn := Tryd.f74) (nt := 17) rfl rfl rfl rfl ?_
 repeat (first
  | ((with_reducible apply Zan); rfl; rfl; (exact (rfl : _ = Value.int _ _)))
  | ((with_reducible apply Zak); rfl; rfl; (exact (rfl : _ = Value.int _ _)))
  | ((with_reducible apply Zj); rfl; rfl; (exact (rfl : _ = Value.int _ _)); (exact (rfl : _ = Value.int _ _)); (first
  | with_reducible exact Z67 (by first | exact ofI _ _ | rfl) (by first | exact ofI _ _ | rfl)
  | with_reducible exact Z5m (by first | exact ofI _ _ | rfl) (by omega)
  | with_reducible exact Z2y (by omega)
  | with_reducible exact Z5f (by first | exact ofI _ _ | rfl) (by first | exact ofI _ _ | rfl)
  | with_reducible exact Z7g (by first | exact ofI _ _ | rfl) (by first | exact ofI _ _ | rfl)))
  | ((with_reducible apply Zdm); rfl; rfl; (exact (rfl : _ = Value.int _ _)); (exact Zsl rfl rfl (by first | exact Zfc _ | rfl)))
  | with_reducible refine Za ?_
  | with_reducible refine Zf ?_
  | with_reducible refine Ze ?_
  | with_reducible refine Zs ?_
  | with_reducible refine Zc ?_)
 refine Zu ?_
 refine Zet (v := .int _ _) rfl rfl ?_
 have h2 : (BitVec.ofInt 64 32 - (BitVec.ofInt 64 k &&& BitVec.ofInt 64 31)).toNat = 32 - (k % 32).toNat := by
  have h3 := Z5e k
  have h32 : (BitVec.ofInt 64 32).toNat = 32 := rfl
  rw [BitVec.toNat_sub, h3, h32]
  omega
 simp only [Int.toNat_natCast, h2, Z5e, rot]
def Zqp (x : BitVec 32) (a b : Int) (z : BitVec 32) : BitVec 32 := rot x ((0 - a) % 32).toNat ^^^ rot x ((0 - b) % 32).toNat ^^^ z
theorem Znf (x : BitVec 32) (a b : Int) (z : BitVec 32) (ha : 0 ≤ a ∧ a ≤ 32) (hb : 0 ≤ b ∧ b ≤ 32) : Z9 Tryd.prog G 73 [w32 x, Iv a, Iv b, w32 z] [] (w32 (Zqp x a b z)) [] := by
 refine Zbu (fn := Tryd.f73) (nt := 20) rfl rfl rfl rfl ?_
 repeat (first
  | ((with_reducible apply Zan); rfl; rfl; (exact (rfl : _ = Value.int _ _)))
  | ((with_reducible apply Zak); rfl; rfl; (exact (rfl : _ = Value.int _ _)))
  | ((with_reducible apply Zj); rfl; rfl; (exact (rfl : _ = Value.int _ _)); (exact (rfl : _ = Value.int _ _)); (with_reducible exact Z5p (by first | exact ofI _ _ | rfl) (by first | exact ofI _ _ | rfl)))
  | ((with_reducible apply Zi1); rfl; rfl; (exact (rfl : _ = Value.int _ _)); (exact Z6l rfl (by omega) (by omega)))
  | ((with_reducible apply Zp (Zyy _ _)); rfl; rfl; rfl; rfl; rfl; (exact (rfl : _ = Value.int _ _)))
  | with_reducible refine Za ?_
  | with_reducible refine Zf ?_
  | with_reducible refine Ze ?_
  | with_reducible refine Zs ?_
  | with_reducible refine Zc ?_)
 refine Zu ?_
 exact Zet (v := .int _ _) rfl rfl rfl
end Go.Flat
end
section
namespace Go.Flat
open Go.Proofs
variable {G : Glob}
def inB (w : Nat → BitVec 32) (i : Nat) (x : BitVec 8) : Nat → BitVec 32 := Zhx w (i / 4) (w (i / 4) <<< 8 ||| x.setWidth 32)
def Zoq (b : Nat → BitVec 8) : Nat → Nat → BitVec 32
  | 0 => fun _ => 0
  | i + 1 => inB (Zoq b i) i (b i)
def Z7c (k : BitVec 32) (v w : Nat → BitVec 32) (t : Nat) : BitVec 32 := v 7 + Zqp (v 4) 6 11 (rot (v 4) ((-25 : Int) % 32).toNat) + (v 6 ^^^ (v 4 &&& (v 5 ^^^ v 6))) + k + w (t % 16)
def Z7d (v : Nat → BitVec 32) : BitVec 32 := Zqp (v 0) 2 13 (rot (v 0) ((-22 : Int) % 32).toNat) + ((v 0 &&& v 1) ^^^ (v 0 &&& v 2) ^^^ (v 1 &&& v 2))
def Z5l (p q : BitVec 32) (v : Nat → BitVec 32) : Nat → BitVec 32 := fun k => if k = 0 then p + q else if k = 4 then v 3 + p else v (k - 1)
def Z7e (w : Nat → BitVec 32) (t : Nat) : Nat → BitVec 32 := Zhx w (t % 16) (w (t % 16) + (w ((t + 9) % 16) + Zqp (w ((t + 1) % 16)) 7 18 (w ((t + 1) % 16) >>> 3) + Zqp (w ((t + 14) % 16)) 17 19 (w ((t + 14) % 16) >>> 10)))
def Zvd (kk : Nat → BitVec 32) (v w : Nat → BitVec 32) : Nat → (Nat → BitVec 32) × (Nat → BitVec 32)
  | 0 => (v, w)
  | t + 1 => let p := Zvd kk v w t; (Z5l (Z7c (kk t) p.1 p.2 t) (Z7d p.1) p.1, Z7e p.2 t)
def Z0t (v V : Nat → BitVec 32) : Nat → Nat → BitVec 32
  | 0 => v
  | i + 1 => Zhx (Z0t v V i) i (Z0t v V i i + V i)
def Z6j (kk : Nat → BitVec 32) (v : Nat → BitVec 32) (b : Nat → BitVec 8) : Nat → BitVec 32 := Z0t v (Zvd kk v (Zoq b 64) 64).1 8

abbrev pt (b o : Nat) : Value := .pointer (some ⟨b, o, none⟩)
abbrev sl (b o n c : Nat) : Value := .slice (some ⟨b, o, none⟩) n c
def stB (v : Nat → BitVec 32) (r n : Value) : Blk := { cells := Z6 w32 8 v ++ [r, n], sz := 10, wr := true, fix := true, mv := false, pur := false }
def byB (n : Nat) (b : Nat → BitVec 8) : Blk := { cells := Z6 w8 n b, sz := 1, wr := false, fix := false, mv := true, pur := true }
def wB (w : Nat → BitVec 32) : Blk := { cells := Z6 w32 16 w, sz := 16, wr := true, fix := true, mv := false, pur := true }
def vB (v : Nat → BitVec 32) : Blk := { cells := Z6 w32 8 v, sz := 8, wr := true, fix := true, mv := false, pur := true }

set_option maxHeartbeats 4000000 in
theorem Z2v (kk : Nat → BitVec 32) (hG : G 0 = some (Z6 w32 64 kk)) (v : Nat → BitVec 32) (b : Nat → BitVec 8) (m c c' : Nat) (n : BitVec 64) :
  Z9 Tryd.prog G 59 [pt 0 0, sl 1 0 64 c'] [stB v (sl 1 0 m c) (w64 n), byB 64 b] (.tuple #[]) [stB (Z6j kk v b) (sl 1 0 m c) (w64 n), byB 64 b] := by
 refine Zbu (fn := Tryd.f59) (nt := 156) rfl rfl rfl rfl ?_
 refine Zaj 2 (H' := [stB v (sl 1 0 m c) (w64 n), byB 64 b, hole, hole]) rfl ?_
 repeat (first
  | ((with_reducible apply Zan); rfl; rfl; (first
  | exact (rfl : _ = Value.int _ _)
  | exact (rfl : _ = Value.slice _ _ _)))
  | ((with_reducible apply Ze6); rfl; rfl; (exact (rfl : _ = Value.slice _ _ _)); (exact (rfl : _ = some (Value.int _ _))))
  | ((with_reducible apply Zcb (nid := 2)); rfl; rfl; rfl; exact (rfl : _ = _ :: _))
  | with_reducible refine Za ?_
  | with_reducible refine Zf ?_
  | with_reducible refine Ze ?_
  | with_reducible refine Z5 ?_
  | with_reducible refine Zc ?_)
 refine Zck (fun i => [pt 0 0, sl 1 0 64 c', dead, dead, pt 2 0] ++ List.replicate 13 dead ++ [sl 1 0 64 c', Iv 64, Iv (i : Nat)]) (fun i : Nat => [stB v (sl 1 0 m c) (w64 n), byB 64 b, wB (Zoq b i), hole]) (fun i => i ≤ 64) (fun i => 64 - i) 0 (by omega) ?_ ?_
 ·refine Zam (n := 4) rfl ?_ rfl ?_
  repeat (first | exact trivial | refine ⟨.inl rfl, ?_⟩ | refine ⟨.inr ⟨rfl, rfl⟩, ?_⟩)
  ·rfl
 ·intro i hi
  by_cases hlt : i < 64
  repeat (first
   | ((with_reducible apply Zd0 (j := i / 4)); rfl; rfl; exact (rfl : _ = Value.pointer (some ⟨_, _, _⟩)); (exact (rfl : _ = Value.int _ _)); (exact (rfl : _ = some (_, 1))); omega; omega; omega)
   | ((with_reducible apply Zbs (j := i)); rfl; rfl; exact (rfl : _ = Value.slice (some ⟨_, _, _⟩) _ _); (exact (rfl : _ = Value.int _ _)); (exact (rfl : _ = some (_, 1))); omega; omega; omega)
   | ((with_reducible apply Zan); rfl; rfl; (exact (rfl : _ = Value.int _ _)))
   | ((with_reducible apply Zak); rfl; rfl; (exact (rfl : _ = Value.int _ _)))
   | ((with_reducible apply Zj); rfl; rfl; (exact (rfl : _ = Value.int _ _)); (exact (rfl : _ = Value.int _ _)); (first
   | with_reducible exact Zdd (by omega)
   | with_reducible exact Za0 rfl (by omega) (by omega)
   | with_reducible exact Z67 (by first | exact ofI _ _ | rfl) (by first | exact ofI _ _ | rfl)
   | with_reducible exact Z5m (by first | exact ofI _ _ | rfl) (by omega)
   | with_reducible exact Z5j (by omega) (by omega) (by omega)))
   | ((with_reducible apply Zdm); rfl; rfl; (exact (rfl : _ = Value.int _ _)); (exact Z5y rfl rfl (by first | exact Zfc _ | rfl)))
   | ((with_reducible apply Zal); rfl; rfl; exact (rfl : _ = Value.pointer (some ⟨_, _, _⟩)); (exact Ziw rfl rfl rfl (by omega) (fun _ => rfl)))
   | ((with_reducible apply Za1); rfl; exact (rfl : _ = Value.pointer (some ⟨_, _, _⟩)); (exact (rfl : _ = Value.int _ _)); (exact Zhq rfl rfl rfl rfl rfl (by omega) rfl rfl); exact (rfl : _ = _ :: _))
   | with_reducible refine Za ?_
   | with_reducible refine Zf ?_
   | with_reducible refine Ze ?_
   | with_reducible refine Z5 ?_
   | with_reducible refine Z0 ?_
   | with_reducible refine Zc ?_
   | with_reducible refine Zz ?_
   | ((with_reducible apply Zv); rfl))
  refine Zas ⟨i + 1, by omega, by omega, ?_⟩
  refine Zam (n := 4) rfl ?_ ?_ ?_ <;> try rfl
  repeat (first | exact trivial | refine ⟨.inl rfl, ?_⟩ | refine ⟨.inr ⟨rfl, rfl⟩, ?_⟩)
  ·obtain rfl : i = 64 := by omega
   repeat (first
    | ((with_reducible apply Zal); rfl; rfl; exact (rfl : _ = Value.pointer (some ⟨_, _, _⟩)); exact Zwz rfl hG rfl)
    | ((with_reducible apply Zan); rfl; rfl; (first
    | exact (rfl : _ = Value.int _ _)
    | exact (rfl : _ = Value.pointer (some _))))
    | ((with_reducible apply Zj); rfl; rfl; (exact (rfl : _ = Value.int _ _)); (exact (rfl : _ = Value.int _ _)); (with_reducible exact Zcw (by omega)))
    | ((with_reducible apply Zgc); rfl; rfl; exact (rfl : _ = Value.pointer (some ⟨_, _, _⟩)); (exact (rfl : _ = some (Value.pointer (some _)))))
    | ((with_reducible apply Za2); rfl; rfl; exact (rfl : _ = Value.pointer (some ⟨_, _, _⟩)); (exact (rfl : _ = some 0)); (exact Nat.zero_add _))
    | ((with_reducible apply Zal); rfl; rfl; exact (rfl : _ = Value.pointer (some ⟨_, _, _⟩)); (exact (rfl : _ = some (Value.agg _))))
    | ((with_reducible apply Za1); rfl; exact (rfl : _ = Value.pointer (some ⟨_, _, _⟩)); (exact (rfl : _ = Value.agg _)); (rfl); exact (rfl : _ = _ :: _))
    | ((with_reducible apply Zcb (nid := 3)); rfl; rfl; rfl; exact (rfl : _ = _ :: _))
    | with_reducible refine Za ?_
    | with_reducible refine Zf ?_
    | with_reducible refine Ze ?_
    | with_reducible refine Z5 ?_
    | with_reducible refine Zbn ?_
    | with_reducible refine Zc ?_
    | with_reducible refine Zat ?_
    | with_reducible refine Za3 ?_
    | ((with_reducible apply Zt); rfl)
    | ((with_reducible apply Zay); rfl))
   refine Zck (fun x => [pt 0 0, dead, dead, dead, pt 2 0, dead, dead, pt 3 0] ++ List.replicate 33 dead ++ [.agg (Z6 w32 64 kk).toArray, Iv (x : Nat)])
    (fun t : Nat => [stB v (sl 1 0 m c) (w64 n), byB 64 b, wB (Zvd kk v (Zoq b 64) t).2, vB (Zvd kk v (Zoq b 64) t).1]) (fun t => t ≤ 64) (fun t => 64 - t) 0 (by omega) ?_ ?_
   ·refine Zam (n := 4) rfl ?_ rfl rfl
    repeat (first | exact trivial | refine ⟨.inl rfl, ?_⟩ | refine ⟨.inr ⟨rfl, rfl⟩, ?_⟩)
   ·intro t ht
    by_cases hlt : t < 64
    ·generalize hv : (Zvd kk v (Zoq b 64) t).1 = vt
     generalize hw : (Zvd kk v (Zoq b 64) t).2 = wt
     repeat (first
      | ((with_reducible apply Zyv); rfl; rfl; (exact (rfl : _ = Value.agg _)); (exact (rfl : _ = Value.int _ _)); exact Zpu (i := t) rfl rfl (by omega) (by omega) (by omega) (fun _ => rfl))
      | ((with_reducible apply Zd0 (j := t % 16)); rfl; rfl; exact (rfl : _ = Value.pointer (some ⟨_, _, _⟩)); (exact (rfl : _ = Value.int _ _)); (exact (rfl : _ = some (_, 1))); omega; omega; omega)
      | ((with_reducible apply Zd0 (j := (t + 1) % 16)); rfl; rfl; exact (rfl : _ = Value.pointer (some ⟨_, _, _⟩)); (exact (rfl : _ = Value.int _ _)); (exact (rfl : _ = some (_, 1))); omega; omega; omega)
      | ((with_reducible apply Zd0 (j := (t + 14) % 16)); rfl; rfl; exact (rfl : _ = Value.pointer (some ⟨_, _, _⟩)); (exact (rfl : _ = Value.int _ _)); (exact (rfl : _ = some (_, 1))); omega; omega; omega)
      | ((with_reducible apply Zd0 (j := (t + 9) % 16)); rfl; rfl; exact (rfl : _ = Value.pointer (some ⟨_, _, _⟩)); (exact (rfl : _ = Value.int _ _)); (exact (rfl : _ = some (_, 1))); omega; omega; omega)
      | ((with_reducible apply Zd0 (j := 0)); rfl; rfl; exact (rfl : _ = Value.pointer (some ⟨_, _, _⟩)); (exact (rfl : _ = Value.int _ _)); (exact (rfl : _ = some (_, 1))); omega; omega; omega)
      | ((with_reducible apply Zd0 (j := 1)); rfl; rfl; exact (rfl : _ = Value.pointer (some ⟨_, _, _⟩)); (exact (rfl : _ = Value.int _ _)); (exact (rfl : _ = some (_, 1))); omega; omega; omega)
      | ((with_reducible apply Zd0 (j := 2)); rfl; rfl; exact (rfl : _ = Value.pointer (some ⟨_, _, _⟩)); (exact (rfl : _ = Value.int _ _)); (exact (rfl : _ = some (_, 1))); omega; omega; omega)
      | ((with_reducible apply Zd0 (j := 4)); rfl; rfl; exact (rfl : _ = Value.pointer (some ⟨_, _, _⟩)); (exact (rfl : _ = Value.int _ _)); (exact (rfl : _ = some (_, 1))); omega; omega; omega)
      | ((with_reducible apply Zd0 (j := 5)); rfl; rfl; exact (rfl : _ = Value.pointer (some ⟨_, _, _⟩)); (exact (rfl : _ = Value.int _ _)); (exact (rfl : _ = some (_, 1))); omega; omega; omega)
      | ((with_reducible apply Zd0 (j := 6)); rfl; rfl; exact (rfl : _ = Value.pointer (some ⟨_, _, _⟩)); (exact (rfl : _ = Value.int _ _)); (exact (rfl : _ = some (_, 1))); omega; omega; omega)
      | ((with_reducible apply Zd0 (j := 7)); rfl; rfl; exact (rfl : _ = Value.pointer (some ⟨_, _, _⟩)); (exact (rfl : _ = Value.int _ _)); (exact (rfl : _ = some (_, 1))); omega; omega; omega)
      | ((with_reducible apply Zan); rfl; rfl; (exact (rfl : _ = Value.int _ _)))
      | ((with_reducible apply Zak); rfl; rfl; (exact (rfl : _ = Value.int _ _)))
      | ((with_reducible apply Zj); rfl; rfl; (exact (rfl : _ = Value.int _ _)); (exact (rfl : _ = Value.int _ _)); (first
      | with_reducible exact Zdd (by omega)
      | with_reducible exact Za0 rfl (by omega) (by omega)
      | with_reducible exact Z5d (by first | exact ofI _ _ | rfl) (by first | exact ofI _ _ | rfl)
      | with_reducible exact Z6s (by first | exact ofI _ _ | rfl) (by first | exact ofI _ _ | rfl)
      | with_reducible exact Z2y (by omega)
      | with_reducible exact Z5p (by first | exact ofI _ _ | rfl) (by first | exact ofI _ _ | rfl)
      | with_reducible exact Z2o (by omega) (by omega)))
      | ((with_reducible apply Zda); rfl; rfl; (exact (rfl : _ = Value.pointer (some _))); rfl; rfl; (exact (rfl : _ = some (Value.slice (some ⟨_, _, _⟩) _ _))))
      | ((with_reducible apply Z2n); rfl; rfl; (exact (rfl : _ = Value.slice _ _ _)); (exact (rfl : _ = Value.slice _ _ _)); exact (rfl : _ = some (Value.int _ _, _, _)); exact (rfl : _ = _ :: _))
      | ((with_reducible apply Zal); rfl; rfl; exact (rfl : _ = Value.pointer (some ⟨_, _, _⟩)); (first
      | exact Ziw rfl rfl rfl (by omega) (fun _ => rfl)
      | exact (rfl : _ = some (Value.int _ _))))
      | ((with_reducible apply Za1); rfl; exact (rfl : _ = Value.pointer (some ⟨_, _, _⟩)); (exact (rfl : _ = Value.int _ _)); (first
      | exact Zhq rfl rfl rfl rfl rfl (by omega) rfl rfl
      | rfl); exact (rfl : _ = _ :: _))
      | ((with_reducible apply Zp (Zyy _ _)); rfl; rfl; rfl; rfl; rfl; (exact (rfl : _ = Value.int _ _)))
      | ((with_reducible apply Zp (Znf _ 6 11 _ (by decide) (by decide))); rfl; rfl; rfl; rfl; rfl; (exact (rfl : _ = Value.int _ _)))
      | ((with_reducible apply Zp (Znf _ 2 13 _ (by decide) (by decide))); rfl; rfl; rfl; rfl; rfl; (exact (rfl : _ = Value.int _ _)))
      | ((with_reducible apply Zp (Znf _ 7 18 _ (by decide) (by decide))); rfl; rfl; rfl; rfl; rfl; (exact (rfl : _ = Value.int _ _)))
      | ((with_reducible apply Zp (Znf _ 17 19 _ (by decide) (by decide))); rfl; rfl; rfl; rfl; rfl; (exact (rfl : _ = Value.int _ _)))
      | with_reducible refine Za ?_
      | with_reducible refine Zf ?_
      | with_reducible refine Ze ?_
      | with_reducible refine Z5 ?_
      | with_reducible refine Z0 ?_
      | with_reducible refine Zc ?_
      | with_reducible refine Zz ?_
      | (with_reducible refine Zdq (by kernel_rfl) ?_)
      | (with_reducible refine Zer (by kernel_rfl) ?_)
      | ((with_reducible apply Zv); rfl))
     subst hv; subst hw
     refine Zas ⟨t + 1, by omega, by omega, ?_⟩
     refine Zam (n := 4) rfl ?_ ?_ ?_
     repeat (first | exact trivial | refine ⟨.inl rfl, ?_⟩ | refine ⟨.inr ⟨rfl, rfl⟩, ?_⟩)
     ·rfl
     ·rfl
    ·obtain rfl : t = 64 := by omega
     generalize hv : (Zvd kk v (Zoq b 64) 64).1 = vt
     generalize hw : (Zvd kk v (Zoq b 64) 64).2 = wt
     repeat (first
      | ((with_reducible apply Zan); rfl; rfl; (exact (rfl : _ = Value.int _ _)))
      | ((with_reducible apply Zj); rfl; rfl; (exact (rfl : _ = Value.int _ _)); (exact (rfl : _ = Value.int _ _)); (with_reducible exact Zcw (by omega)))
      | ((with_reducible apply Zal); rfl; rfl; exact (rfl : _ = Value.pointer (some ⟨_, _, _⟩)); (exact (rfl : _ = some (Value.agg _))))
      | with_reducible refine Za ?_
      | with_reducible refine Zf ?_
      | with_reducible refine Ze ?_
      | with_reducible refine Z5 ?_
      | with_reducible refine Zbn ?_
      | with_reducible refine Zc ?_
      | with_reducible refine Zat ?_
      | with_reducible refine Za3 ?_
      | ((with_reducible apply Zt); rfl)
      | ((with_reducible apply Zay); rfl))
     refine Zck (fun x => [pt 0 0] ++ List.replicate 138 dead ++ [.agg (Z6 w32 8 vt).toArray, Iv (x : Nat)])
      (fun x : Nat => [stB (Z0t v vt x) (sl 1 0 m c) (w64 n), byB 64 b]) (fun x => x ≤ 8) (fun x => 8 - x) 0 (by omega) ?_ ?_
     ·refine Zam (n := 2) rfl ?_ rfl rfl
      repeat (first | exact trivial | refine ⟨.inl rfl, ?_⟩ | refine ⟨.inr ⟨rfl, rfl⟩, ?_⟩)
     ·intro x hx
      by_cases hlt : x < 8
      repeat (first
       | ((with_reducible apply Zd0 (j := x)); rfl; rfl; exact (rfl : _ = Value.pointer (some ⟨_, _, _⟩)); (exact (rfl : _ = Value.int _ _)); (exact (rfl : _ = some (_, 1))); omega; omega; omega)
       | ((with_reducible apply Zyv); rfl; rfl; (exact (rfl : _ = Value.agg _)); (exact (rfl : _ = Value.int _ _)); exact Zpu (i := x) rfl rfl (by omega) (by omega) (by omega) (fun _ => rfl))
       | ((with_reducible apply Zan); rfl; rfl; (first
       | exact (rfl : _ = Value.int _ _)
       | exact (rfl : _ = Value.pointer (some _))))
       | ((with_reducible apply Zak); rfl; rfl; (exact (rfl : _ = Value.int _ _)))
       | ((with_reducible apply Zj); rfl; rfl; (exact (rfl : _ = Value.int _ _)); (exact (rfl : _ = Value.int _ _)); (first
       | with_reducible exact Zdd (by omega)
       | with_reducible exact Za0 rfl (by omega) (by omega)
       | with_reducible exact Z5d (by first | exact ofI _ _ | rfl) (by first | exact ofI _ _ | rfl)))
       | ((with_reducible apply Zgc); rfl; rfl; exact (rfl : _ = Value.pointer (some ⟨_, _, _⟩)); (exact (rfl : _ = some (Value.pointer (some _)))))
       | ((with_reducible apply Za2); rfl; rfl; exact (rfl : _ = Value.pointer (some ⟨_, _, _⟩)); (exact (rfl : _ = some 0)); (exact Nat.zero_add _))
       | ((with_reducible apply Zal); rfl; rfl; exact (rfl : _ = Value.pointer (some ⟨_, _, _⟩)); (exact Zp0 rfl rfl rfl (by omega) (fun _ => rfl)))
       | ((with_reducible apply Za1); rfl; exact (rfl : _ = Value.pointer (some ⟨_, _, _⟩)); (exact (rfl : _ = Value.int _ _)); (exact Zvn rfl rfl rfl rfl rfl (by omega) rfl rfl); exact (rfl : _ = _ :: _))
       | with_reducible refine Za ?_
       | with_reducible refine Zf ?_
       | with_reducible refine Ze ?_
       | with_reducible refine Z5 ?_
       | with_reducible refine Z0 ?_
       | with_reducible refine Zc ?_
       | with_reducible refine Zz ?_
       | (with_reducible refine Zdq (by kernel_rfl) ?_)
       | (with_reducible refine Zer (by kernel_rfl) ?_)
       | ((with_reducible apply Zv); rfl))
      refine Zas ⟨x + 1, by omega, by omega, ?_⟩
      refine Zam (n := 2) rfl ?_ rfl rfl
      repeat (first | exact trivial | refine ⟨.inl rfl, ?_⟩ | refine ⟨.inr ⟨rfl, rfl⟩, ?_⟩)
      ·obtain rfl : x = 8 := by omega
       repeat (first
        | ((with_reducible apply Zj); rfl; rfl; (exact (rfl : _ = Value.int _ _)); (exact (rfl : _ = Value.int _ _)); (with_reducible exact Zcw (by omega)))
        | with_reducible refine Za ?_
        | with_reducible refine Zf ?_
        | with_reducible refine Ze ?_
        | with_reducible refine Zbn ?_
        | with_reducible refine Zc ?_
        | with_reducible refine Zat ?_
        | with_reducible refine Za3 ?_
        | ((with_reducible apply Zt); rfl)
        | ((with_reducible apply Zay); rfl))
       refine Zkr ?_
       refine Zm (v := .tuple #[]) rfl ?_ rfl ?_ ?_
       ·subst hv; rfl
       ·rfl
       ·exact trivial
end Go.Flat
end
section
namespace Go.Flat
open Go.Proofs
variable {G : Glob}
abbrev Bs := List (BitVec 8)
def bl (s : ByteArray) : Bs := s.data.toList.map UInt8.toBitVec
theorem Znp (s : ByteArray) : Zez s = (bl s).map w8 := by
 unfold Zez bl
 rw [List.map_map]; rfl
theorem Zlm (s : ByteArray) : (bl s).length = s.size := by simp [bl]
def Zar (l : Bs) : Blk := { cells := l.map w8, sz := 1, wr := true, fix := false, mv := true, pur := true }
def Zir (l : Bs) (j : Nat) : Nat → BitVec 8 := fun i => l.getD (64 * j + i) 0
def Znm (kk v : Nat → BitVec 32) (l : Bs) : Nat → Nat → BitVec 32
  | 0 => v
  | j + 1 => Z6j kk (Znm kk v l j) (Zir l j)
theorem Z6k {l : Bs} {j : Nat} (h : 64 * j + 64 ≤ l.length) : ((l.map w8).drop (64 * j)).take 64 = Z6 w8 64 (Zir l j) := by
 apply List.ext_getElem?
 intro i
 rcases Nat.lt_or_ge i 64 with hi | hi
 ·rw [Zdo hi, List.getElem?_take, if_pos hi, List.getElem?_drop, List.getElem?_map]
  have : 64 * j + i < l.length := by omega
  simp [Zir, this]
 ·rw [List.getElem?_eq_none (by simp; omega), List.getElem?_eq_none (by rw [Zbt]; omega)]

theorem Ztr (s : ByteArray) : (Zez s).all Zbj = true := by rw [Znp]; simp only [List.all_map, List.all_eq_true]; intros; rfl
theorem Zzp (l : Bs) : (l.map w8).all Zbj = true := by simp only [List.all_map, List.all_eq_true]; intros; rfl
set_option maxHeartbeats 4000000 in
theorem Z45 (kk : Nat → BitVec 32) (hG : G 0 = some (Z6 w32 64 kk)) (v : Nat → BitVec 32) (pre rest full : Bs) (s : ByteArray) (n : BitVec 64) (hf : full = rest ++ bl s) (hs : full.length ≤ 140737488355328) :
  Z9 Tryd.prog G 38 [pt 0 0, .string s] [stB v (slv 1 pre.length rest.length rest.length) (w64 n), Zar (pre ++ rest)] (.tuple #[])
   [stB (Znm kk v full (full.length / 64)) (slv 1 (64 * (full.length / 64)) (full.length - 64 * (full.length / 64)) (full.length - 64 * (full.length / 64))) (w64 (n + BitVec.ofInt 64 s.size)), Zar full] := by
 have hlen : full.length = rest.length + s.size := by rw [hf]; simp [Zlm]
 refine Zbu (fn := Tryd.f38) (nt := 44) rfl rfl rfl rfl ?_
 have hcat : (((pre ++ rest).map w8).drop pre.length).take (rest.length * 1) ++ Zez s = full.map w8 := by
  rw [Nat.mul_one, List.map_append, List.drop_append_of_le_length (by simp), Znp, hf, List.map_append]
  have : List.drop pre.length (List.map w8 pre) = [] := by simp
  rw [this, List.nil_append, List.take_of_length_le (by simp)]
 repeat (first
  | ((with_reducible apply Zc9); rfl; rfl; rfl; exact .inr rfl; exact (rfl : _ = Value.slice (some ⟨_, _, _⟩) _ _); exact (rfl : _ = Value.string _); exact Zeo (n' := full.length) (rfl : _ = some (1, _, 1)) rfl rfl rfl rfl rfl (Ztr s) (by simp [Zar]) (by decide) hlen.symm (by omega); rfl; exact (rfl : _ = _ :: _))
  | ((with_reducible apply Zan); rfl; rfl; (first
  | exact (rfl : _ = Value.pointer (some _))
  | exact (rfl : _ = Value.string _)))
  | ((with_reducible apply Zj); rfl; rfl; (exact (rfl : _ = Value.int _ _)); (exact (rfl : _ = Value.int _ _)); (with_reducible exact Z6q (by first | exact ofI _ _ | rfl) (by first | exact ofI _ _ | rfl)))
  | ((with_reducible apply Zdm); rfl; rfl; (exact (rfl : _ = Value.int _ _)); (exact Zsl rfl rfl (by first | exact Zfc _ | rfl)))
  | ((with_reducible apply Zgc); rfl; rfl; exact (rfl : _ = Value.pointer (some ⟨_, _, _⟩)); (exact (rfl : _ = some (Value.pointer (some _)))))
  | ((with_reducible apply Za2); rfl; rfl; exact (rfl : _ = Value.pointer (some ⟨_, _, _⟩)); (first
  | exact (rfl : _ = some 8)
  | exact (rfl : _ = some 9)); (exact Nat.zero_add _))
  | ((with_reducible apply Zal); rfl; rfl; exact (rfl : _ = Value.pointer (some ⟨_, _, _⟩)); (first
  | exact (rfl : _ = some (Value.int _ _))
  | exact (rfl : _ = some (Value.slice _ _ _))))
  | ((with_reducible apply Ze6); rfl; rfl; (exact (rfl : _ = Value.string _)); (exact (rfl : _ = some (Value.int _ _))))
  | ((with_reducible apply Za1); rfl; exact (rfl : _ = Value.pointer (some ⟨_, _, _⟩)); (first
  | exact (rfl : _ = Value.int _ _)
  | exact (rfl : _ = Value.slice _ _ _)); (rfl); exact (rfl : _ = _ :: _))
  | with_reducible refine Za ?_
  | with_reducible refine Zf ?_
  | with_reducible refine Ze ?_
  | with_reducible refine Z5 ?_
  | with_reducible refine Zc ?_)
 refine Zck (fun x => [pt 0 0])
  (fun j : Nat => [stB (Znm kk v full j) (slv 1 (64 * j) (full.length - 64 * j) (full.length - 64 * j)) (w64 (n + BitVec.ofInt 64 s.size)), Zar full]) (fun j => 64 * j ≤ full.length) (fun j => full.length - 64 * j) 0 (by omega) ?_ ?_
 ·refine Zam (n := 2) rfl ?_ ?_ rfl
  repeat (first | exact trivial | refine ⟨.inl rfl, ?_⟩ | refine ⟨.inr ⟨rfl, rfl⟩, ?_⟩)
  ·exact congrArg (fun c => [stB v (slv 1 0 full.length full.length) (w64 (n + BitVec.ofInt 64 s.size)), ({ cells := c, sz := 1, wr := true, fix := false, mv := true, pur := true } : Blk)]) hcat
 ·intro j hj
  by_cases hlt : 64 * j + 64 ≤ full.length
  repeat (first
   | ((with_reducible apply Zda); rfl; rfl; exact (rfl : _ = Value.slice (some ⟨_, _, _⟩) _ _); rfl; rfl; first | exact Zhp (h := 64) rfl rfl rfl (by omega) rfl | exact Znc (l := 64) (sz := 1) (j := 64 * (j + 1)) (m := full.length - 64 * (j + 1)) (c' := full.length - 64 * (j + 1)) rfl rfl rfl rfl (by omega) (by omega) rfl (by omega) (by omega) (by omega))
   | ((with_reducible apply Zab (e := [some (0, 0), some (1, 64 * j)]) (nid := 0) (Z2v kk hG (Znm kk v full j) (Zir full j) (full.length - 64 * j) (full.length - 64 * j) 64 (n + BitVec.ofInt 64 s.size))); rfl; rfl; rfl; rfl; rfl; rfl; rfl; exact ⟨⟨⟨rfl, rfl⟩, ⟨rfl, rfl, rfl, by omega, by omega⟩, trivial⟩, ⟨Zaw rfl rfl rfl rfl, Zdh rfl rfl (by (show 64 * j + (Z6 w8 64 _).length ≤ (List.map w8 full).length; rw [Zbt, List.length_map]; exact hlt)) (Z6k hlt), trivial⟩, rfl, rfl, rfl⟩; exact (rfl : _ = Value.tuple _); exact (rfl : _ = _ :: _))
   | ((with_reducible apply Zan); rfl; rfl; (exact (rfl : _ = Value.pointer (some _))))
   | ((with_reducible apply Zj); rfl; rfl; (exact (rfl : _ = Value.int _ _)); (exact (rfl : _ = Value.int _ _)); (with_reducible exact Zgy (by omega)))
   | ((with_reducible apply Zgc); rfl; rfl; exact (rfl : _ = Value.pointer (some ⟨_, _, _⟩)); (exact (rfl : _ = some (Value.pointer (some _)))))
   | ((with_reducible apply Za2); rfl; rfl; exact (rfl : _ = Value.pointer (some ⟨_, _, _⟩)); (exact (rfl : _ = some 8)); (exact Nat.zero_add _))
   | ((with_reducible apply Zal); rfl; rfl; exact (rfl : _ = Value.pointer (some ⟨_, _, _⟩)); (exact (rfl : _ = some (Value.slice _ _ _))))
   | ((with_reducible apply Ze6); rfl; rfl; (exact (rfl : _ = Value.slice _ _ _)); (exact (rfl : _ = some (Value.int _ _))))
   | ((with_reducible apply Za1); rfl; exact (rfl : _ = Value.pointer (some ⟨_, _, _⟩)); (exact (rfl : _ = Value.slice _ _ _)); (rfl); exact (rfl : _ = _ :: _))
   | with_reducible refine Za ?_
   | with_reducible refine Zf ?_
   | with_reducible refine Ze ?_
   | with_reducible refine Z5 ?_
   | with_reducible refine Z0 ?_
   | with_reducible refine Zc ?_
   | with_reducible refine Zz ?_
   | ((with_reducible apply Zv); rfl))
  refine Zas ⟨j + 1, by omega, by omega, ?_⟩
  refine Zam (n := 2) rfl ?_ ?_ rfl
  repeat (first | exact trivial | refine ⟨.inl rfl, ?_⟩ | refine ⟨.inr ⟨rfl, rfl⟩, ?_⟩)
  ·rfl
  ·have hj2 : j = full.length / 64 := by omega
   subst hj2
   repeat (first
    | ((with_reducible apply Zan); rfl; rfl; (exact (rfl : _ = Value.pointer (some _))))
    | ((with_reducible apply Zj); rfl; rfl; (exact (rfl : _ = Value.int _ _)); (exact (rfl : _ = Value.int _ _)); (with_reducible exact Zhi (by omega)))
    | ((with_reducible apply Zgc); rfl; rfl; exact (rfl : _ = Value.pointer (some ⟨_, _, _⟩)); (exact (rfl : _ = some (Value.pointer (some _)))))
    | ((with_reducible apply Za2); rfl; rfl; exact (rfl : _ = Value.pointer (some ⟨_, _, _⟩)); (exact (rfl : _ = some 8)); (exact Nat.zero_add _))
    | ((with_reducible apply Zal); rfl; rfl; exact (rfl : _ = Value.pointer (some ⟨_, _, _⟩)); (exact (rfl : _ = some (Value.slice _ _ _))))
    | ((with_reducible apply Ze6); rfl; rfl; (exact (rfl : _ = Value.slice _ _ _)); (exact (rfl : _ = some (Value.int _ _))))
    | with_reducible refine Za ?_
    | with_reducible refine Zf ?_
    | with_reducible refine Ze ?_
    | with_reducible refine Zbn ?_
    | with_reducible refine Zc ?_
    | with_reducible refine Zat ?_
    | with_reducible refine Za3 ?_
    | ((with_reducible apply Zt); rfl)
    | ((with_reducible apply Zay); rfl))
   refine Zkr ?_
   refine Zm (v := .tuple #[]) rfl ?_ rfl ?_ ?_
   ·rfl
   ·rfl
   ·exact trivial
end Go.Flat
end
section
namespace Go.Flat
open Go.Proofs
variable {G : Glob}
def Zz2 : Nat → BitVec 32
  | 0 => 0x6a09e667 | 1 => 0xbb67ae85 | 2 => 0x3c6ef372 | 3 => 0xa54ff53a | 4 => 0x510e527f | 5 => 0x9b05688c | 6 => 0x1f83d9ab | _ => 0x5be0cd19
abbrev Z2b : Value := .slice none 0 0
def Z41 (v : Nat → BitVec 32) (r n : Value) : List Value := Z6 w32 8 v ++ [r, n]
theorem Z0x : Z9 Tryd.prog G 37 [] [] (.agg (Z41 Zz2 Z2b (w64 0)).toArray) [] := by
 refine Zbu (fn := Tryd.f37) (nt := 3) rfl rfl rfl rfl ?_
 refine Zaj 1 (H' := [hole]) rfl ?_
 repeat (first
  | ((with_reducible apply Zbm); rfl; rfl; rfl; exact (rfl : _ = some (Value.agg _)))
  | ((with_reducible apply Za1); rfl; exact (rfl : _ = Value.pointer (some ⟨_, _, _⟩)); (exact (rfl : _ = Value.agg _)); (rfl); exact (rfl : _ = _ :: _))
  | ((with_reducible apply Zcb (nid := 0)); rfl; rfl; rfl; exact (rfl : _ = _ :: _))
  | with_reducible refine Za ?_
  | with_reducible refine Zf ?_
  | with_reducible refine Ze ?_
  | with_reducible refine Zs ?_
  | with_reducible refine Zc ?_)
 refine Zu ?_
 refine Zet (v := .agg _) rfl rfl ?_
 rfl
def tl (M : Bs) : Bs := M.drop (64 * (M.length / 64))
def Zon (kk : Nat → BitVec 32) (M : Bs) : Nat → BitVec 32 := Znm kk Zz2 M (M.length / 64)
def Zfy (M : Bs) (s : ByteArray) : Bs := (tl M ++ bl s).take (64 * ((tl M ++ bl s).length / 64))
def stM (kk : Nat → BitVec 32) (M pre : Bs) (r : Nat) : Blk := stB (Zon kk M) (slv r pre.length (tl M).length (tl M).length) (w64 (BitVec.ofNat 64 M.length))
theorem Zxn (M : Bs) : (tl M).length = M.length - 64 * (M.length / 64) := by simp [tl]
theorem Zy9 (M N : Bs) (j : Nat) : Zir (tl M ++ N) j = Zir (M ++ N) (M.length / 64 + j) := by
 have hk : 64 * (M.length / 64) ≤ M.length := by omega
 have : tl M ++ N = (M ++ N).drop (64 * (M.length / 64)) := by unfold tl; rw [List.drop_append_of_le_length hk]
 funext i
 unfold Zir
 rw [this]
 simp only [List.getD_eq_getElem?_getD, List.getElem?_drop]
 congr 2
 omega
theorem Zti (kk : Nat → BitVec 32) (M N : Bs) : ∀ j, Znm kk (Zon kk M) (tl M ++ N) j = Znm kk Zz2 (M ++ N) (M.length / 64 + j)
 | 0 => by
  simp only [Znm, Nat.add_zero]
  unfold Zon
  have : ∀ k, 64 * k ≤ M.length → Znm kk Zz2 M k = Znm kk Zz2 (M ++ N) k := by
   intro k
   induction k with
   | zero => intros; rfl
   | succ k ih =>
    intro h
    simp only [Znm]
    rw [ih (by omega)]
    have hb : ∀ i, i < 64 → Zir M k i = Zir (M ++ N) k i := by
     intro i hi
     unfold Zir
     simp only [List.getD_eq_getElem?_getD]
     rw [List.getElem?_append_left (by omega)]
    have hin : ∀ t, t ≤ 64 → Zoq (Zir M k) t = Zoq (Zir (M ++ N) k) t := by
     intro t
     induction t with
     | zero => intros; rfl
     | succ t ih2 => intro ht; simp only [Zoq]; rw [ih2 (by omega), hb t (by omega)]
    unfold Z6j
    rw [hin 64 (by omega)]
  exact this _ (by omega)
 | j + 1 => by
  have e : M.length / 64 + (j + 1) = (M.length / 64 + j) + 1 := by omega
  rw [e]
  simp only [Znm]
  rw [Zti kk M N j, Zy9]
theorem Zvs (kk : Nat → BitVec 32) (hG : G 0 = some (Z6 w32 64 kk)) (M pre : Bs) (s : ByteArray) (hs : (tl M).length + s.size ≤ 140737488355328) :
  Z9 Tryd.prog G 38 [pt 0 0, .string s] [stM kk M pre 1, Zar (pre ++ tl M)] (.tuple #[]) [stM kk (M ++ bl s) (Zfy M s) 1, Zar (Zfy M s ++ tl (M ++ bl s))] := by
 have h := Z45 (G := G) kk hG (Zon kk M) pre (tl M) (tl M ++ bl s) s (BitVec.ofNat 64 M.length) rfl (by simp [Zlm]; omega)
 have hk : 64 * (M.length / 64) ≤ M.length := by omega
 have hl : (tl M ++ bl s).length = M.length - 64 * (M.length / 64) + s.size := by simp [Zxn, Zlm]
 have hL : (M ++ bl s).length = M.length + s.size := by simp [Zlm]
 have hq : (M ++ bl s).length / 64 = M.length / 64 + (tl M ++ bl s).length / 64 := by rw [hl, hL]; omega
 have hd : tl (M ++ bl s) = (tl M ++ bl s).drop (64 * ((tl M ++ bl s).length / 64)) := by
  have e1 : tl M ++ bl s = (M ++ bl s).drop (64 * (M.length / 64)) := by unfold tl; rw [List.drop_append_of_le_length hk]
  rw [e1, List.drop_drop, ← e1]
  unfold tl
  congr 1
  rw [hq]; unfold tl; omega
 have hp : (Zfy M s).length = 64 * ((tl M ++ bl s).length / 64) := by unfold Zfy; rw [List.length_take]; omega
 have e1 : Znm kk (Zon kk M) (tl M ++ bl s) ((tl M ++ bl s).length / 64) = Zon kk (M ++ bl s) := by rw [Zti]; unfold Zon; rw [hq]
 have e2 : Zfy M s ++ tl (M ++ bl s) = tl M ++ bl s := by rw [hd]; exact List.take_append_drop _ _
 have e3 : (tl (M ++ bl s)).length = (tl M ++ bl s).length - 64 * ((tl M ++ bl s).length / 64) := by rw [hd, List.length_drop]
 have e4 : BitVec.ofNat 64 M.length + BitVec.ofInt 64 s.size = BitVec.ofNat 64 (M ++ bl s).length := by rw [hL, BitVec.ofInt_natCast, BitVec.ofNat_add]
 rw [e1, e4, ← e3, ← hp, ← e2] at h
 exact h
end Go.Flat
end
section
namespace Go.Flat
open Go.Proofs
variable {G : Glob}
def Zlc (ps : List ByteArray) : Blk := { cells := ps.map Value.string, sz := 1, wr := false, fix := false, mv := true, pur := true }
def dgB (d : Nat → BitVec 8) : Blk := { cells := Z6 w8 32 d, sz := 32, wr := true, fix := true, mv := false, pur := true }
def Zby (ps : List ByteArray) : Bs := (ps.map bl).flatten
def Z0y (n : BitVec 64) (i : Nat) : BitVec 8 := (n >>> (56 - 8 * (i : Int)).toNat).setWidth 8
def Z68 (r : Nat) : Bs := (128 : BitVec 8) :: List.replicate ((119 - r) % 64) 0
def Z2f (r : Nat) (n : BitVec 64) : Nat → Bs
  | 0 => Z68 r
  | i + 1 => Z2f r n i ++ [Z0y n i]
def shaD (v : Nat → BitVec 32) (i : Nat) : BitVec 8 := (v (i / 4) >>> (24 - (i : Int) % 4 * 8).toNat).setWidth 8
def Zvc (v : Nat → BitVec 32) : Nat → Nat → BitVec 8
  | 0 => fun _ => 0
  | i + 1 => Zhx (Zvc v i) i (shaD v i)
def Z4h (M : Bs) : BitVec 64 := BitVec.ofNat 64 M.length * BitVec.ofInt 64 8
def Zfu (M : Bs) (i : Nat) : Bs := Z2f (tl M).length (Z4h M) i
def Zcx (kk : Nat → BitVec 32) (M : Bs) : Nat → BitVec 8 := Zvc (Zon kk (M ++ Zfu M 8)) 32
theorem Zuw (r : Nat) (n : BitVec 64) : ∀ i, (Z2f r n i).length = 1 + (119 - r) % 64 + i
 | 0 => by simp [Z2f, Z68]; omega
 | i + 1 => by simp [Z2f, Zuw r n i]; omega
def Zk (l : Bs) : ByteArray := ⟨(l.map UInt8.ofBitVec).toArray⟩
theorem Ztp (l : Bs) : bl (Zk l) = l := by
 unfold bl Zk
 simp only [List.map_map]
 have : (UInt8.toBitVec ∘ UInt8.ofBitVec) = (id : BitVec 8 → BitVec 8) := rfl
 rw [this, List.map_id]
theorem Za6 (l : Bs) : (Zk l).size = l.length := by rw [← Zlm, Ztp]

set_option maxHeartbeats 4000000 in
theorem Ztf (kk : Nat → BitVec 32) (hG : G 0 = some (Z6 w32 64 kk)) (ps : List ByteArray) (c : Nat) (hn : ps.length ≤ 1000000) (hs : ∀ s, s ∈ ps → s.size ≤ 70368744177664) :
  Z9 Tryd.prog G 20 [slv 0 0 ps.length c] [Zlc ps] (.agg (Z6 w8 32 (Zcx kk (Zby ps))).toArray) [Zlc ps] := by
 refine Zbu (fn := Tryd.f20) (nt := 67) rfl rfl rfl rfl ?_
 refine Zaj 6 (H' := [Zlc ps, hole, hole, hole, hole, hole, hole]) rfl ?_
 repeat (first
  | ((with_reducible apply Zan); rfl; rfl; (first
  | exact (rfl : _ = Value.int _ _)
  | exact (rfl : _ = Value.slice _ _ _)))
  | ((with_reducible apply Ze6); rfl; rfl; (exact (rfl : _ = Value.slice _ _ _)); (exact (rfl : _ = some (Value.int _ _))))
  | ((with_reducible apply Za1); rfl; exact (rfl : _ = Value.pointer (some ⟨_, _, _⟩)); (exact (rfl : _ = Value.agg _)); (rfl); exact (rfl : _ = _ :: _))
  | ((with_reducible apply Zcb (nid := 1)); rfl; rfl; rfl; exact (rfl : _ = _ :: _))
  | ((with_reducible apply Zcb (nid := 2)); rfl; rfl; rfl; exact (rfl : _ = _ :: _))
  | ((with_reducible apply Zp (Z0x)); rfl; rfl; rfl; rfl; rfl; (exact (rfl : _ = Value.agg _)))
  | with_reducible refine Za ?_
  | with_reducible refine Zf ?_
  | with_reducible refine Ze ?_
  | with_reducible refine Z5 ?_
  | with_reducible refine Zc ?_)
 refine Zb5 (Zbo.nilCell (k := 2) (j := 8) (b := 3) true 1 rfl (by decide) rfl (by show 0 < 10; decide) rfl rfl) ?_
 refine Zck (fun x : Nat × Bs => [dead, dead, pt 1 0, pt 2 0] ++ List.replicate 8 dead ++ [slv 0 0 ps.length c, Iv ps.length, Iv (x.1 : Nat)])
  (fun x => [Zlc ps, dgB (fun _ => 0), stM kk (Zby (ps.take x.1)) x.2 3, Zar (x.2 ++ tl (Zby (ps.take x.1))), hole, hole, hole]) (fun x => x.1 ≤ ps.length) (fun x => ps.length - x.1) (0, []) (by simp) ?_ ?_
 ·refine Zam (n := 7) rfl ?_ ?_ rfl
  repeat (first | exact trivial | refine ⟨.inl rfl, ?_⟩ | refine ⟨.inr ⟨rfl, rfl⟩, ?_⟩)
  ·show _ = [Zlc ps, dgB (fun _ => 0), stM kk (Zby (ps.take 0)) [] 3, Zar ([] ++ tl (Zby (ps.take 0))), hole, hole, hole]
   rw [show Zby (ps.take 0) = [] from by simp [Zby]]
   rfl
 ·rintro ⟨i, pre⟩ hi
  dsimp only at hi ⊢
  by_cases hlt : i < ps.length
  ·have hM : Zby (ps.take (i + 1)) = Zby (ps.take i) ++ bl ps[i] := by
    unfold Zby
    rw [List.take_add_one, List.map_append, List.flatten_append]
    simp [hlt]
   have hsz : (tl (Zby (ps.take i))).length + (ps[i]).size ≤ 140737488355328 := by
    have := hs ps[i] (List.getElem_mem hlt)
    rw [Zxn]; omega
   have hget : (Zlc ps).cells[i]? = some (Value.string ps[i]) := by simp [Zlc, hlt]
   generalize hMi : Zby (ps.take i) = M at hM hsz
   repeat (first
    | ((with_reducible apply Zal); rfl; rfl; exact (rfl : _ = Value.pointer (some ⟨_, _, _⟩)); exact Zkb rfl rfl hget rfl)
    | ((with_reducible apply Zc2 (e := [some (2, 0), some (3, 0)]) (nid := 0) (Zvs kk hG M pre ps[i] hsz)); rfl; rfl; rfl; rfl; rfl; rfl; refine ⟨⟨⟨rfl, rfl⟩, rfl, trivial⟩, ⟨Zaw rfl rfl rfl (congrArg (fun q => Z6 w32 8 (Zon kk M) ++ [slv 3 q (tl M).length (tl M).length, w64 (BitVec.ofNat 64 M.length)]) (Nat.zero_add _).symm), Zaw rfl rfl rfl rfl, trivial⟩, rfl, rfl, rfl, Nat.le_refl _⟩; exact (rfl : _ = Value.tuple _); rfl; exact (rfl : _ = _ :: _))
    | ((with_reducible apply Zbs (j := i)); rfl; rfl; exact (rfl : _ = Value.slice (some ⟨_, _, _⟩) _ _); (exact (rfl : _ = Value.int _ _)); (exact (rfl : _ = some (_, 1))); omega; omega; omega)
    | ((with_reducible apply Zan); rfl; rfl; (first
    | exact (rfl : _ = Value.int _ _)
    | exact (rfl : _ = Value.string _)))
    | ((with_reducible apply Zak); rfl; rfl; (exact (rfl : _ = Value.string _)))
    | ((with_reducible apply Zj); rfl; rfl; (exact (rfl : _ = Value.int _ _)); (exact (rfl : _ = Value.int _ _)); (first
    | with_reducible exact Zdd (by omega)
    | with_reducible exact Za0 rfl (by omega) (by omega)))
    | with_reducible refine Za ?_
    | with_reducible refine Zf ?_
    | with_reducible refine Ze ?_
    | with_reducible refine Z5 ?_
    | with_reducible refine Z0 ?_
    | with_reducible refine Zc ?_
    | with_reducible refine Zz ?_
    | ((with_reducible apply Zv); rfl))
   refine Zas ⟨(i + 1, Zfy M ps[i]), by show i + 1 ≤ _; omega, by show _ - (i + 1) < _; omega, ?_⟩
   refine Zam (n := 7) rfl ?_ ?_ rfl
   repeat (first | exact trivial | refine ⟨.inl rfl, ?_⟩ | refine ⟨.inr ⟨rfl, rfl⟩, ?_⟩)
   ·show _ = [Zlc ps, dgB (fun _ => 0), stM kk (Zby (ps.take (i + 1))) (Zfy M ps[i]) 3, Zar (Zfy M ps[i] ++ tl (Zby (ps.take (i + 1)))), hole, hole, hole]
    rw [hM]
    exact congrArg (fun q => [Zlc ps, dgB (fun _ => 0), stB (Zon kk (M ++ bl ps[i])) (slv 3 q (tl (M ++ bl ps[i])).length (tl (M ++ bl ps[i])).length) (w64 (BitVec.ofNat 64 (M ++ bl ps[i]).length)), Zar (Zfy M ps[i] ++ tl (M ++ bl ps[i])), hole, hole, hole]) (Nat.zero_add _)
  ·obtain rfl : i = ps.length := by omega
   rw [List.take_length]
   have htl : (tl (Zby ps)).length < 64 := by rw [Zxn]; omega
   generalize hMi : Zby ps = M at htl
   have hp : ∀ i, (Zfu M i).length = 1 + (119 - (tl M).length) % 64 + i := fun i => Zuw _ _ i
   repeat (first
    | ((with_reducible apply Zw8 (nid := 4)); rfl; rfl; exact (rfl : _ = Value.int _ _); exact (rfl : _ = Value.int _ _); exact Zp3 (n := (119 - (tl M).length) % 64 + 1) (c := 128) (rfl : _ = some (1, _, 1)) (by omega) rfl (by omega) (by decide) (by decide) rfl; exact (rfl : _ = _ :: _))
    | ((with_reducible apply Za1); rfl; exact (rfl : _ = Value.pointer (some ⟨4, _, _⟩)); exact (rfl : _ = Value.int _ _); exact Zl1 rfl rfl rfl (Z4v _ _) (by simp) rfl rfl; exact (rfl : _ = _ :: _))
    | ((with_reducible apply Zbs (j := 0)); rfl; rfl; exact (rfl : _ = Value.slice (some ⟨_, _, _⟩) _ _); (exact (rfl : _ = Value.int _ _)); (exact (rfl : _ = some (_, 1))); omega; omega; omega)
    | ((with_reducible apply Zan); rfl; rfl; (first
    | exact (rfl : _ = Value.int _ _)
    | exact (rfl : _ = Value.slice _ _ _)))
    | ((with_reducible apply Zak); rfl; rfl; (first
    | exact (rfl : _ = Value.int _ _)
    | exact (rfl : _ = Value.slice _ _ _)))
    | ((with_reducible apply Zj); rfl; rfl; (exact (rfl : _ = Value.int _ _)); (exact (rfl : _ = Value.int _ _)); (first
    | with_reducible exact Zcw (by omega)
    | with_reducible exact Za0 rfl (by omega) (by omega)
    | with_reducible exact Zdg rfl (by omega) (by omega)
    | with_reducible exact Z5h (by first | exact ofI _ _ | rfl) (by first | exact ofI _ _ | rfl)
    | with_reducible exact Z2o (by omega) (by omega)))
    | ((with_reducible apply Za2); rfl; rfl; exact (rfl : _ = Value.pointer (some ⟨_, _, _⟩)); (first
    | exact (rfl : _ = some 8)
    | exact (rfl : _ = some 9)); (exact Nat.zero_add _))
    | ((with_reducible apply Zal); rfl; rfl; exact (rfl : _ = Value.pointer (some ⟨_, _, _⟩)); (first
    | exact (rfl : _ = some (Value.int _ _))
    | exact (rfl : _ = some (Value.slice _ _ _))))
    | ((with_reducible apply Ze6); rfl; rfl; (exact (rfl : _ = Value.slice _ _ _)); (exact (rfl : _ = some (Value.int _ _))))
    | with_reducible refine Za ?_
    | with_reducible refine Zf ?_
    | with_reducible refine Ze ?_
    | with_reducible refine Z5 ?_
    | with_reducible refine Zbn ?_
    | with_reducible refine Zc ?_
    | with_reducible refine Zat ?_
    | with_reducible refine Za3 ?_
    | ((with_reducible apply Zt); rfl)
    | ((with_reducible apply Zay); rfl))
   refine Zck (fun x : Nat × Nat => [dead, dead, pt 1 0, pt 2 0, dead, dead, w64 (Z4h M), slv 4 0 (Zfu M x.1).length x.2] ++ List.replicate 25 dead ++ [Iv (x.1 : Nat)])
    (fun x => [Zlc ps, dgB (fun _ => 0), stM kk M pre 3, Zar (pre ++ tl M), Zar (Zfu M x.1)]) (fun x => x.1 ≤ 8) (fun x => 8 - x.1) (0, 128) (by show 0 ≤ 8; decide) ?_ ?_
   ·refine Zam (n := 5) rfl ?_ ?_ rfl
    ·rw [show (Zfu M (0, 128).1).length = (119 - (tl M).length) % 64 + 1 from by rw [hp]; omega]
     repeat (first | exact trivial | refine ⟨.inl rfl, ?_⟩ | refine ⟨.inr ⟨rfl, rfl⟩, ?_⟩)
    ·exact congrArg (fun q => [Zlc ps, dgB (fun _ => 0), stM kk M pre 3, Zar (pre ++ tl M), ({ cells := w8 128 :: q, sz := 1, wr := true, fix := false, mv := true, pur := true } : Blk)]) (show List.replicate ((119 - (tl M).length) % 64) (w8 0) = List.map w8 (List.replicate ((119 - (tl M).length) % 64) 0) from by rw [List.map_replicate])
   ·rintro ⟨i, cap⟩ hi8
    dsimp only at hi8 ⊢
    by_cases hl8 : i < 8
    ·have hpi := hp i
     have hpi1 := hp (i + 1)
     refine Zaj 1 (H' := [Zlc ps, dgB (fun _ => 0), stM kk M pre 3, Zar (pre ++ tl M), Zar (Zfu M i), hole]) rfl ?_
     repeat (first
      | ((with_reducible apply Zel (nid := 5)); rfl; rfl; rfl; exact (rfl : _ = some (Value.slice _ _ _, _)); exact (rfl : _ = _ :: _))
      | ((with_reducible apply Zc9); rfl; rfl; rfl; exact .inl ⟨_, rfl⟩; exact (rfl : _ = Value.slice (some ⟨_, _, _⟩) _ _); exact (rfl : _ = Value.slice (some ⟨_, _, _⟩) _ _); exact Zeo (n' := (Zfu M (i + 1)).length) (rfl : _ = some (1, _, 1)) (rfl : _ = some (1, _)) rfl rfl rfl rfl rfl (by simp [Zar]) (by decide) (by omega) (by omega); rfl; exact (rfl : _ = _ :: _))
      | ((with_reducible apply Zan); rfl; rfl; (first
      | exact (rfl : _ = Value.int _ _)
      | exact (rfl : _ = Value.slice _ _ _)))
      | ((with_reducible apply Zak); rfl; rfl; (first
      | exact (rfl : _ = Value.int _ _)
      | exact (rfl : _ = Value.slice _ _ _)))
      | ((with_reducible apply Zj); rfl; rfl; (exact (rfl : _ = Value.int _ _)); (exact (rfl : _ = Value.int _ _)); (first
      | with_reducible exact Zdd (by omega)
      | with_reducible exact Za0 rfl (by omega) (by omega)
      | with_reducible exact Zdg rfl (by omega) (by omega)
      | with_reducible exact Zx7 rfl (by omega) (by omega)
      | with_reducible exact Zna (by omega)))
      | ((with_reducible apply Zdm); rfl; rfl; (exact (rfl : _ = Value.int _ _)); (exact Zgl rfl rfl (by first | exact Zfc _ | rfl)))
      | with_reducible refine Za ?_
      | with_reducible refine Zf ?_
      | with_reducible refine Ze ?_
      | with_reducible refine Z5 ?_
      | with_reducible refine Z0 ?_
      | with_reducible refine Zc ?_
      | with_reducible refine Zz ?_
      | ((with_reducible apply Zv); rfl))
     refine Zas ⟨(i + 1, (Zfu M (i + 1)).length), by show i + 1 ≤ 8; omega, by show 8 - (i + 1) < 8 - i; omega, ?_⟩
     refine Zam (n := 5) rfl ?_ ?_ rfl
     repeat (first | exact trivial | refine ⟨.inl rfl, ?_⟩ | refine ⟨.inr ⟨rfl, rfl⟩, ?_⟩)
     ·have hq : List.take ((Zfu M i).length * 1) (List.drop 0 ((Zfu M i).map w8)) ++ [w8 (Z0y (Z4h M) i)] = (Zfu M (i + 1)).map w8 := by
       rw [Nat.mul_one, List.drop_zero, List.take_of_length_le (by simp)]
       show _ = List.map w8 (Zfu M i ++ [Z0y (Z4h M) i])
       rw [List.map_append]; rfl
      exact congrArg (fun q => [Zlc ps, dgB (fun _ => 0), stM kk M pre 3, Zar (pre ++ tl M), ({ cells := q, sz := 1, wr := true, fix := false, mv := true, pur := true } : Blk)]) hq
    ·obtain rfl : i = 8 := by omega
     have hp8 := hp 8
     refine Zaj 1 (H' := [Zlc ps, dgB (fun _ => 0), stM kk M pre 3, Zar (pre ++ tl M), Zar (Zfu M 8), hole]) rfl ?_
     have hS : bl (Zk (Zfu M 8)) = Zfu M 8 := Ztp _
     have hsz : (tl M).length + (Zk (Zfu M 8)).size ≤ 140737488355328 := by rw [Za6]; omega
     repeat (first
      | ((with_reducible apply Zfs); rfl; rfl; exact (rfl : _ = Value.slice (some ⟨_, _, _⟩) _ _); exact Zd9 (l := Zfu M 8) rfl rfl rfl rfl (by simp [Zar]) (by show List.take (Zfu M 8).length (List.drop 0 ((Zfu M 8).map w8)) = _; rw [List.drop_zero, List.take_of_length_le (by simp)]))
      | ((with_reducible apply Zc2 (e := [some (2, 0), some (3, 0)]) (nid := 0) (Zvs kk hG M pre (Zk (Zfu M 8)) hsz)); rfl; rfl; rfl; rfl; rfl; rfl; refine ⟨⟨⟨rfl, rfl⟩, rfl, trivial⟩, ⟨Zaw rfl rfl rfl (congrArg (fun q => Z6 w32 8 (Zon kk M) ++ [slv 3 q (tl M).length (tl M).length, w64 (BitVec.ofNat 64 M.length)]) (Nat.zero_add _).symm), Zaw rfl rfl rfl rfl, trivial⟩, rfl, rfl, rfl, Nat.le_refl _⟩; exact (rfl : _ = Value.tuple _); rfl; exact (rfl : _ = _ :: _))
      | ((with_reducible apply Zan); rfl; rfl; (first
      | exact (rfl : _ = Value.int _ _)
      | exact (rfl : _ = Value.slice _ _ _)))
      | ((with_reducible apply Zj); rfl; rfl; (exact (rfl : _ = Value.int _ _)); (exact (rfl : _ = Value.int _ _)); (with_reducible exact Zcw (by omega)))
      | ((with_reducible apply Zcb (nid := 5)); rfl; rfl; rfl; exact (rfl : _ = _ :: _))
      | with_reducible refine Za ?_
      | with_reducible refine Zf ?_
      | with_reducible refine Ze ?_
      | with_reducible refine Z5 ?_
      | with_reducible refine Zbn ?_
      | with_reducible refine Zc ?_
      | with_reducible refine Zat ?_
      | with_reducible refine Za3 ?_
      | ((with_reducible apply Zt); rfl)
      | ((with_reducible apply Zay); rfl))
     generalize hV : Zon kk (M ++ bl (Zk (Zfu M 8))) = V
     refine Zck (fun x : Nat => [dead, dead, pt 1 0, pt 2 0, dead, dead, dead, dead, dead, pt 5 0] ++ List.replicate 39 dead ++ [Iv (x : Nat)])
      (fun x : Nat => [Zlc ps, dgB (fun _ => 0), stB V (slv 3 (0 + (Zfy M (Zk (Zfu M 8))).length) (tl (M ++ bl (Zk (Zfu M 8)))).length (tl (M ++ bl (Zk (Zfu M 8)))).length) (w64 (BitVec.ofNat 64 (M ++ bl (Zk (Zfu M 8))).length)), Zar (Zfy M (Zk (Zfu M 8)) ++ tl (M ++ bl (Zk (Zfu M 8)))), Zar (Zfu M 8), dgB (Zvc V x)]) (fun x => x ≤ 32) (fun x => 32 - x) 0 (by omega) ?_ ?_
     ·subst hV
      refine Zam (n := 6) rfl ?_ rfl rfl
      repeat (first | exact trivial | refine ⟨.inl rfl, ?_⟩ | refine ⟨.inr ⟨rfl, rfl⟩, ?_⟩)
     ·intro x hx
      by_cases hl : x < 32
      repeat (first
       | ((with_reducible apply Zd0 (j := x / 4)); rfl; rfl; exact (rfl : _ = Value.pointer (some ⟨_, _, _⟩)); (exact (rfl : _ = Value.int _ _)); (exact (rfl : _ = some (_, 1))); omega; omega; omega)
       | ((with_reducible apply Zd0 (j := x)); rfl; rfl; exact (rfl : _ = Value.pointer (some ⟨_, _, _⟩)); (exact (rfl : _ = Value.int _ _)); (exact (rfl : _ = some (_, 1))); omega; omega; omega)
       | ((with_reducible apply Zan); rfl; rfl; (exact (rfl : _ = Value.int _ _)))
       | ((with_reducible apply Zak); rfl; rfl; (exact (rfl : _ = Value.int _ _)))
       | ((with_reducible apply Zj); rfl; rfl; (exact (rfl : _ = Value.int _ _)); (exact (rfl : _ = Value.int _ _)); (first
       | with_reducible exact Zdd (by omega)
       | with_reducible exact Za0 rfl (by omega) (by omega)
       | with_reducible exact Zdg rfl (by omega) (by omega)
       | with_reducible exact Zx7 rfl (by omega) (by omega)
       | with_reducible exact Z2y (by omega)
       | with_reducible exact Z5j (by omega) (by omega) (by omega)
       | with_reducible exact Z2o (by omega) (by omega)))
       | ((with_reducible apply Zdm); rfl; rfl; (exact (rfl : _ = Value.int _ _)); (exact Zgl rfl rfl (by first | exact Zfc _ | rfl)))
       | ((with_reducible apply Za2); rfl; rfl; exact (rfl : _ = Value.pointer (some ⟨_, _, _⟩)); (exact (rfl : _ = some 0)); (exact Nat.zero_add _))
       | ((with_reducible apply Zal); rfl; rfl; exact (rfl : _ = Value.pointer (some ⟨_, _, _⟩)); (exact Zp0 rfl rfl rfl (by omega) (fun _ => rfl)))
       | ((with_reducible apply Za1); rfl; exact (rfl : _ = Value.pointer (some ⟨_, _, _⟩)); (exact (rfl : _ = Value.int _ _)); (exact Zhq rfl rfl rfl rfl rfl (by omega) rfl rfl); exact (rfl : _ = _ :: _))
       | with_reducible refine Za ?_
       | with_reducible refine Zf ?_
       | with_reducible refine Ze ?_
       | with_reducible refine Z5 ?_
       | with_reducible refine Z0 ?_
       | with_reducible refine Zc ?_
       | with_reducible refine Zz ?_
       | ((with_reducible apply Zv); rfl))
      refine Zas ⟨x + 1, by omega, by omega, ?_⟩
      refine Zam (n := 6) rfl ?_ rfl rfl
      repeat (first | exact trivial | refine ⟨.inl rfl, ?_⟩ | refine ⟨.inr ⟨rfl, rfl⟩, ?_⟩)
      ·obtain rfl : x = 32 := by omega
       repeat (first
        | ((with_reducible apply Zj); rfl; rfl; (exact (rfl : _ = Value.int _ _)); (exact (rfl : _ = Value.int _ _)); (with_reducible exact Zcw (by omega)))
        | ((with_reducible apply Zal); rfl; rfl; exact (rfl : _ = Value.pointer (some ⟨_, _, _⟩)); (exact (rfl : _ = some (Value.agg _))))
        | ((with_reducible apply Za1); rfl; exact (rfl : _ = Value.pointer (some ⟨_, _, _⟩)); (exact (rfl : _ = Value.agg _)); (rfl); exact (rfl : _ = _ :: _))
        | with_reducible refine Za ?_
        | with_reducible refine Zf ?_
        | with_reducible refine Ze ?_
        | with_reducible refine Zbn ?_
        | with_reducible refine Zs ?_
        | with_reducible refine Zc ?_
        | with_reducible refine Zat ?_
        | with_reducible refine Za3 ?_
        | ((with_reducible apply Zt); rfl)
        | ((with_reducible apply Zay); rfl))
       refine Zu ?_
       refine Zm (v := .agg (Z6 w8 32 (Zvc V 32)).toArray) rfl rfl rfl rfl ?_
       subst hMi
       rw [hS] at hV
       subst hV
       exact Zc0 (Zcj fun _ => rfl) rfl
end Go.Flat
end
section
namespace Go.Flat
open Go.Proofs
variable {G : Glob}
abbrev dgV (d : Nat → BitVec 8) : Value := .agg (Z6 w8 32 d).toArray
def dgL (d : Nat → BitVec 8) : Bs := (List.range 32).map d
theorem Zfw (d : Nat → BitVec 8) : (dgL d).length = 32 := by simp [dgL]
def Zq0 : ByteArray := ⟨#[1]⟩
def Zf6 (kk : Nat → BitVec 32) (a b : Nat → BitVec 8) : Nat → BitVec 8 := Zcx kk (Zby [Zq0, Zk (dgL a), Zk (dgL b)])
theorem Z0g (kk : Nat → BitVec 32) (hG : G 0 = some (Z6 w32 64 kk)) : Z9 Tryd.prog G 62 [] [] (dgV (Zcx kk [])) [] := by
 refine Zbu (fn := Tryd.f62) (nt := 2) rfl rfl rfl rfl ?_
 refine Zaj 1 (H' := [hole]) rfl ?_
 repeat (first
  | ((with_reducible apply Zab (e := [none]) (nid := 0) (Ztf kk hG [] 0 (by decide) (by simp))); rfl; rfl; rfl; rfl; rfl; rfl; rfl; refine ⟨⟨⟨rfl, rfl, rfl, rfl⟩, trivial⟩, ⟨⟨rfl, rfl, by show 0 < 1; decide⟩, trivial⟩, rfl, rfl, rfl⟩; exact (rfl : _ = Value.agg _); exact (rfl : _ = _ :: _))
  | ((with_reducible apply Za1); rfl; exact (rfl : _ = Value.pointer (some ⟨_, _, _⟩)); (exact (rfl : _ = Value.agg _)); (rfl); exact (rfl : _ = _ :: _))
  | ((with_reducible apply Zcb (nid := 0)); rfl; rfl; rfl; exact (rfl : _ = _ :: _))
  | with_reducible refine Za ?_
  | with_reducible refine Zf ?_
  | with_reducible refine Ze ?_
  | with_reducible refine Zs ?_
  | with_reducible refine Zc ?_)
 refine Zu ?_
 refine Zet (v := dgV (Zcx kk [])) ?_ (Zcj fun _ => rfl) rfl
 rfl
theorem Zr9 (kk : Nat → BitVec 32) (hG : G 0 = some (Z6 w32 64 kk)) (a b : Nat → BitVec 8) : Z9 Tryd.prog G 56 [dgV a, dgV b] [] (dgV (Zf6 kk a b)) [] := by
 refine Zbu (fn := Tryd.f56) (nt := 11) rfl rfl rfl rfl ?_
 refine Zaj 4 (H' := [hole, hole, hole, hole]) rfl ?_
 have h32 : ∀ d : Nat → BitVec 8, (Zk (dgL d)).size = 32 := fun d => by rw [Za6, Zfw]
 have hsz : ∀ s, s ∈ [Zq0, Zk (dgL a), Zk (dgL b)] → s.size ≤ 70368744177664 := by
  intro s hs
  simp only [List.mem_cons, List.not_mem_nil, or_false] at hs
  rcases hs with rfl | rfl | rfl
  ·show 1 ≤ 70368744177664; omega
  ·rw [h32]; omega
  ·rw [h32]; omega
 repeat (first
  | ((with_reducible apply Zfs); rfl; rfl; exact (rfl : _ = Value.slice (some ⟨_, _, _⟩) _ _); first | exact Zd9 (l := dgL a) rfl rfl rfl rfl (by show 0 + 32 ≤ 32; decide) rfl | exact Zd9 (l := dgL b) rfl rfl rfl rfl (by show 0 + 32 ≤ 32; decide) rfl)
  | ((with_reducible apply Zel (nid := 3)); rfl; rfl; rfl; exact (rfl : _ = some (Value.slice _ _ _, _)); exact (rfl : _ = _ :: _))
  | ((with_reducible apply Zab (e := [some (3, 0)]) (nid := 0) (Ztf kk hG [Zq0, Zk (dgL a), Zk (dgL b)] 3 (by simp) hsz)); rfl; rfl; rfl; rfl; rfl; rfl; rfl; refine ⟨⟨⟨rfl, rfl, rfl, Nat.le_refl _, Nat.le_refl _⟩, trivial⟩, ⟨Zdh rfl rfl (by show 0 + 3 ≤ 3; decide) rfl, trivial⟩, rfl, rfl, rfl⟩; exact (rfl : _ = Value.agg _); exact (rfl : _ = _ :: _))
  | ((with_reducible apply Zda); rfl; rfl; (exact (rfl : _ = Value.pointer (some _))); rfl; rfl; (exact (rfl : _ = some (Value.slice (some ⟨_, _, _⟩) _ _))))
  | ((with_reducible apply Za1); rfl; exact (rfl : _ = Value.pointer (some ⟨_, _, _⟩)); (exact (rfl : _ = Value.agg _)); (rfl); exact (rfl : _ = _ :: _))
  | ((with_reducible apply Zrw (nid := 0)); rfl; rfl; (exact (rfl : _ = Value.agg _)); rfl; exact (rfl : _ = _ :: _))
  | ((with_reducible apply Zrw (nid := 1)); rfl; rfl; (exact (rfl : _ = Value.agg _)); rfl; exact (rfl : _ = _ :: _))
  | ((with_reducible apply Zcb (nid := 2)); rfl; rfl; rfl; exact (rfl : _ = _ :: _))
  | with_reducible refine Za ?_
  | with_reducible refine Zf ?_
  | with_reducible refine Ze ?_
  | with_reducible refine Zs ?_
  | with_reducible refine Zc ?_
  | (with_reducible refine Zdq (by kernel_rfl) ?_)
  | (with_reducible refine Zer (by kernel_rfl) ?_))
 refine Zu ?_
 refine Zet (v := dgV (Zf6 kk a b)) ?_ (Zcj fun _ => rfl) rfl
 rfl
end Go.Flat
end
section
namespace Go.Flat
open Go.Proofs
variable {G : Glob}
set_option maxHeartbeats 4000000 in
theorem Z0p (x : BitVec 64) : Z9 Tryd.prog G 83 [w64 x] [] (Iv (Za4 x.toNat)) [] := by
 refine Zbu (fn := Tryd.f83) (nt := 25) rfl rfl rfl rfl ?_
 have hx := x.isLt
 have last : ∀ (y : BitVec 64), y.toNat < 256 → (y.setWidth 8).toNat = y.toNat := fun y hy => by rw [BitVec.toNat_setWidth]; omega
 have key : ∀ (y : BitVec 64), y.toNat < 256 → ((y.setWidth 8).toNat < 256 ∧ Za4 (y.setWidth 8).toNat ≤ 8) := fun y hy => ⟨(y.setWidth 8).isLt, Zrb (by have := (y.setWidth 8).isLt; omega)⟩
 by_cases h32 : (4294967296 : Int) ≤ (x.toNat : Int)
 by_cases h16 : (65536 : Int) ≤ ((x >>> Int.toNat 32).toNat : Int)
 by_cases h8 : (256 : Int) ≤ (((x >>> Int.toNat 32) >>> Int.toNat 16).toNat : Int)
 have e32 : (x >>> Int.toNat 32).toNat = x.toNat / 4294967296 := by rw [Zfe]; rfl
 have b32 : Za4 x.toNat = 32 + Za4 (x.toNat / 4294967296) := Zca (k := 32) (by omega)
 have e16 : ((x >>> Int.toNat 32) >>> Int.toNat 16).toNat = (x >>> Int.toNat 32).toNat / 65536 := by rw [Zfe]; rfl
 have b16 : Za4 (x >>> Int.toNat 32).toNat = 16 + Za4 ((x >>> Int.toNat 32).toNat / 65536) := Zca (k := 16) (by omega)
 have e8 : (((x >>> Int.toNat 32) >>> Int.toNat 16) >>> Int.toNat 8).toNat = ((x >>> Int.toNat 32) >>> Int.toNat 16).toNat / 256 := by rw [Zfe]; rfl
 have b8 : Za4 ((x >>> Int.toNat 32) >>> Int.toNat 16).toNat = 8 + Za4 (((x >>> Int.toNat 32) >>> Int.toNat 16).toNat / 256) := Zca (k := 8) (by omega)
 have hlast : (((x >>> Int.toNat 32) >>> Int.toNat 16) >>> Int.toNat 8).toNat < 256 := by omega
 obtain ⟨k1, k2⟩ := key (((x >>> Int.toNat 32) >>> Int.toNat 16) >>> Int.toNat 8) hlast
 have k3 := last (((x >>> Int.toNat 32) >>> Int.toNat 16) >>> Int.toNat 8) hlast
 repeat (first
  | ((with_reducible apply Zgs); rfl; rfl; exact (rfl : _ = Value.string _); exact (rfl : _ = Value.int _ _); exact Ze9 rfl rfl (by omega) (by kernel_rfl))
  | ((with_reducible apply Zan); rfl; rfl; (exact (rfl : _ = Value.int _ _)))
  | ((with_reducible apply Zak); rfl; rfl; (exact (rfl : _ = Value.int _ _)))
  | ((with_reducible apply Zj); rfl; rfl; (exact (rfl : _ = Value.int _ _)); (exact (rfl : _ = Value.int _ _)); (first
  | with_reducible exact Zgy (by omega)
  | with_reducible exact Za0 rfl (by omega) (by omega)
  | with_reducible exact Zna (by omega)))
  | ((with_reducible apply Zdm); rfl; rfl; (exact (rfl : _ = Value.int _ _)); (first
  | exact Zgl rfl rfl (by first | exact Zfc _ | rfl)
  | exact Zl8 rfl rfl (by omega) (by omega)))
  | with_reducible refine Za ?_
  | with_reducible refine Zf ?_
  | with_reducible refine Ze ?_
  | with_reducible refine Zs ?_
  | with_reducible refine Zc ?_
  | ((with_reducible apply Zv); rfl))
 refine Zu ?_
 refine Zet (v := Iv _) rfl rfl ?_
 rw [k3]
 rw [b32, ← e32, b16, ← e16, b8, ← e8]
 congr 1 <;> omega
 have e32 : (x >>> Int.toNat 32).toNat = x.toNat / 4294967296 := by rw [Zfe]; rfl
 have b32 : Za4 x.toNat = 32 + Za4 (x.toNat / 4294967296) := Zca (k := 32) (by omega)
 have e16 : ((x >>> Int.toNat 32) >>> Int.toNat 16).toNat = (x >>> Int.toNat 32).toNat / 65536 := by rw [Zfe]; rfl
 have b16 : Za4 (x >>> Int.toNat 32).toNat = 16 + Za4 ((x >>> Int.toNat 32).toNat / 65536) := Zca (k := 16) (by omega)
 have hlast : ((x >>> Int.toNat 32) >>> Int.toNat 16).toNat < 256 := by omega
 obtain ⟨k1, k2⟩ := key ((x >>> Int.toNat 32) >>> Int.toNat 16) hlast
 have k3 := last ((x >>> Int.toNat 32) >>> Int.toNat 16) hlast
 repeat (first
  | ((with_reducible apply Zgs); rfl; rfl; exact (rfl : _ = Value.string _); exact (rfl : _ = Value.int _ _); exact Ze9 rfl rfl (by omega) (by kernel_rfl))
  | ((with_reducible apply Zan); rfl; rfl; (exact (rfl : _ = Value.int _ _)))
  | ((with_reducible apply Zak); rfl; rfl; (exact (rfl : _ = Value.int _ _)))
  | ((with_reducible apply Zj); rfl; rfl; (exact (rfl : _ = Value.int _ _)); (exact (rfl : _ = Value.int _ _)); (first
  | with_reducible exact Zgy (by omega)
  | with_reducible exact Zhi (by omega)
  | with_reducible exact Za0 rfl (by omega) (by omega)
  | with_reducible exact Zna (by omega)))
  | ((with_reducible apply Zdm); rfl; rfl; (exact (rfl : _ = Value.int _ _)); (first
  | exact Zgl rfl rfl (by first | exact Zfc _ | rfl)
  | exact Zl8 rfl rfl (by omega) (by omega)))
  | with_reducible refine Za ?_
  | with_reducible refine Zf ?_
  | with_reducible refine Ze ?_
  | with_reducible refine Z0 ?_
  | with_reducible refine Zs ?_
  | with_reducible refine Zc ?_
  | ((with_reducible apply Zv); rfl)
  | ((with_reducible apply Zt); rfl))
 refine Zu ?_
 refine Zet (v := Iv _) rfl rfl ?_
 rw [k3]
 rw [b32, ← e32, b16, ← e16]
 congr 1 <;> omega
 by_cases h8 : (256 : Int) ≤ ((x >>> Int.toNat 32).toNat : Int)
 have e32 : (x >>> Int.toNat 32).toNat = x.toNat / 4294967296 := by rw [Zfe]; rfl
 have b32 : Za4 x.toNat = 32 + Za4 (x.toNat / 4294967296) := Zca (k := 32) (by omega)
 have e8 : ((x >>> Int.toNat 32) >>> Int.toNat 8).toNat = (x >>> Int.toNat 32).toNat / 256 := by rw [Zfe]; rfl
 have b8 : Za4 (x >>> Int.toNat 32).toNat = 8 + Za4 ((x >>> Int.toNat 32).toNat / 256) := Zca (k := 8) (by omega)
 have hlast : ((x >>> Int.toNat 32) >>> Int.toNat 8).toNat < 256 := by omega
 obtain ⟨k1, k2⟩ := key ((x >>> Int.toNat 32) >>> Int.toNat 8) hlast
 have k3 := last ((x >>> Int.toNat 32) >>> Int.toNat 8) hlast
 repeat (first
  | ((with_reducible apply Zgs); rfl; rfl; exact (rfl : _ = Value.string _); exact (rfl : _ = Value.int _ _); exact Ze9 rfl rfl (by omega) (by kernel_rfl))
  | ((with_reducible apply Zan); rfl; rfl; (exact (rfl : _ = Value.int _ _)))
  | ((with_reducible apply Zak); rfl; rfl; (exact (rfl : _ = Value.int _ _)))
  | ((with_reducible apply Zj); rfl; rfl; (exact (rfl : _ = Value.int _ _)); (exact (rfl : _ = Value.int _ _)); (first
  | with_reducible exact Zgy (by omega)
  | with_reducible exact Zhi (by omega)
  | with_reducible exact Za0 rfl (by omega) (by omega)
  | with_reducible exact Zna (by omega)))
  | ((with_reducible apply Zdm); rfl; rfl; (exact (rfl : _ = Value.int _ _)); (first
  | exact Zgl rfl rfl (by first | exact Zfc _ | rfl)
  | exact Zl8 rfl rfl (by omega) (by omega)))
  | with_reducible refine Za ?_
  | with_reducible refine Zf ?_
  | with_reducible refine Ze ?_
  | with_reducible refine Z0 ?_
  | with_reducible refine Zs ?_
  | with_reducible refine Zc ?_
  | ((with_reducible apply Zv); rfl)
  | ((with_reducible apply Zt); rfl))
 refine Zu ?_
 refine Zet (v := Iv _) rfl rfl ?_
 rw [k3]
 rw [b32, ← e32, b8, ← e8]
 congr 1 <;> omega
 have e32 : (x >>> Int.toNat 32).toNat = x.toNat / 4294967296 := by rw [Zfe]; rfl
 have b32 : Za4 x.toNat = 32 + Za4 (x.toNat / 4294967296) := Zca (k := 32) (by omega)
 have hlast : (x >>> Int.toNat 32).toNat < 256 := by omega
 obtain ⟨k1, k2⟩ := key (x >>> Int.toNat 32) hlast
 have k3 := last (x >>> Int.toNat 32) hlast
 repeat (first
  | ((with_reducible apply Zgs); rfl; rfl; exact (rfl : _ = Value.string _); exact (rfl : _ = Value.int _ _); exact Ze9 rfl rfl (by omega) (by kernel_rfl))
  | ((with_reducible apply Zan); rfl; rfl; (exact (rfl : _ = Value.int _ _)))
  | ((with_reducible apply Zak); rfl; rfl; (exact (rfl : _ = Value.int _ _)))
  | ((with_reducible apply Zj); rfl; rfl; (exact (rfl : _ = Value.int _ _)); (exact (rfl : _ = Value.int _ _)); (first
  | with_reducible exact Zgy (by omega)
  | with_reducible exact Zhi (by omega)
  | with_reducible exact Za0 rfl (by omega) (by omega)
  | with_reducible exact Zna (by omega)))
  | ((with_reducible apply Zdm); rfl; rfl; (exact (rfl : _ = Value.int _ _)); (first
  | exact Zgl rfl rfl (by first | exact Zfc _ | rfl)
  | exact Zl8 rfl rfl (by omega) (by omega)))
  | with_reducible refine Za ?_
  | with_reducible refine Zf ?_
  | with_reducible refine Ze ?_
  | with_reducible refine Z0 ?_
  | with_reducible refine Zs ?_
  | with_reducible refine Zc ?_
  | ((with_reducible apply Zv); rfl)
  | ((with_reducible apply Zt); rfl))
 refine Zu ?_
 refine Zet (v := Iv _) rfl rfl ?_
 rw [k3]
 rw [b32, ← e32]
 congr 1 <;> omega
 by_cases h16 : (65536 : Int) ≤ (x.toNat : Int)
 by_cases h8 : (256 : Int) ≤ ((x >>> Int.toNat 16).toNat : Int)
 have e16 : (x >>> Int.toNat 16).toNat = x.toNat / 65536 := by rw [Zfe]; rfl
 have b16 : Za4 x.toNat = 16 + Za4 (x.toNat / 65536) := Zca (k := 16) (by omega)
 have e8 : ((x >>> Int.toNat 16) >>> Int.toNat 8).toNat = (x >>> Int.toNat 16).toNat / 256 := by rw [Zfe]; rfl
 have b8 : Za4 (x >>> Int.toNat 16).toNat = 8 + Za4 ((x >>> Int.toNat 16).toNat / 256) := Zca (k := 8) (by omega)
 have hlast : ((x >>> Int.toNat 16) >>> Int.toNat 8).toNat < 256 := by omega
 obtain ⟨k1, k2⟩ := key ((x >>> Int.toNat 16) >>> Int.toNat 8) hlast
 have k3 := last ((x >>> Int.toNat 16) >>> Int.toNat 8) hlast
 repeat (first
  | ((with_reducible apply Zgs); rfl; rfl; exact (rfl : _ = Value.string _); exact (rfl : _ = Value.int _ _); exact Ze9 rfl rfl (by omega) (by kernel_rfl))
  | ((with_reducible apply Zan); rfl; rfl; (exact (rfl : _ = Value.int _ _)))
  | ((with_reducible apply Zak); rfl; rfl; (exact (rfl : _ = Value.int _ _)))
  | ((with_reducible apply Zj); rfl; rfl; (exact (rfl : _ = Value.int _ _)); (exact (rfl : _ = Value.int _ _)); (first
  | with_reducible exact Zgy (by omega)
  | with_reducible exact Zhi (by omega)
  | with_reducible exact Za0 rfl (by omega) (by omega)
  | with_reducible exact Zna (by omega)))
  | ((with_reducible apply Zdm); rfl; rfl; (exact (rfl : _ = Value.int _ _)); (first
  | exact Zgl rfl rfl (by first | exact Zfc _ | rfl)
  | exact Zl8 rfl rfl (by omega) (by omega)))
  | with_reducible refine Za ?_
  | with_reducible refine Zf ?_
  | with_reducible refine Ze ?_
  | with_reducible refine Z0 ?_
  | with_reducible refine Zs ?_
  | with_reducible refine Zc ?_
  | ((with_reducible apply Zv); rfl)
  | ((with_reducible apply Zt); rfl))
 refine Zu ?_
 refine Zet (v := Iv _) rfl rfl ?_
 rw [k3]
 rw [b16, ← e16, b8, ← e8]
 congr 1 <;> omega
 have e16 : (x >>> Int.toNat 16).toNat = x.toNat / 65536 := by rw [Zfe]; rfl
 have b16 : Za4 x.toNat = 16 + Za4 (x.toNat / 65536) := Zca (k := 16) (by omega)
 have hlast : (x >>> Int.toNat 16).toNat < 256 := by omega
 obtain ⟨k1, k2⟩ := key (x >>> Int.toNat 16) hlast
 have k3 := last (x >>> Int.toNat 16) hlast
 repeat (first
  | ((with_reducible apply Zgs); rfl; rfl; exact (rfl : _ = Value.string _); exact (rfl : _ = Value.int _ _); exact Ze9 rfl rfl (by omega) (by kernel_rfl))
  | ((with_reducible apply Zan); rfl; rfl; (exact (rfl : _ = Value.int _ _)))
  | ((with_reducible apply Zak); rfl; rfl; (exact (rfl : _ = Value.int _ _)))
  | ((with_reducible apply Zj); rfl; rfl; (exact (rfl : _ = Value.int _ _)); (exact (rfl : _ = Value.int _ _)); (first
  | with_reducible exact Zgy (by omega)
  | with_reducible exact Zhi (by omega)
  | with_reducible exact Za0 rfl (by omega) (by omega)
  | with_reducible exact Zna (by omega)))
  | ((with_reducible apply Zdm); rfl; rfl; (exact (rfl : _ = Value.int _ _)); (first
  | exact Zgl rfl rfl (by first | exact Zfc _ | rfl)
  | exact Zl8 rfl rfl (by omega) (by omega)))
  | with_reducible refine Za ?_
  | with_reducible refine Zf ?_
  | with_reducible refine Ze ?_
  | with_reducible refine Z0 ?_
  | with_reducible refine Zs ?_
  | with_reducible refine Zc ?_
  | ((with_reducible apply Zv); rfl)
  | ((with_reducible apply Zt); rfl))
 refine Zu ?_
 refine Zet (v := Iv _) rfl rfl ?_
 rw [k3]
 rw [b16, ← e16]
 congr 1 <;> omega
 by_cases h8 : (256 : Int) ≤ (x.toNat : Int)
 have e8 : (x >>> Int.toNat 8).toNat = x.toNat / 256 := by rw [Zfe]; rfl
 have b8 : Za4 x.toNat = 8 + Za4 (x.toNat / 256) := Zca (k := 8) (by omega)
 have hlast : (x >>> Int.toNat 8).toNat < 256 := by omega
 obtain ⟨k1, k2⟩ := key (x >>> Int.toNat 8) hlast
 have k3 := last (x >>> Int.toNat 8) hlast
 repeat (first
  | ((with_reducible apply Zgs); rfl; rfl; exact (rfl : _ = Value.string _); exact (rfl : _ = Value.int _ _); exact Ze9 rfl rfl (by omega) (by kernel_rfl))
  | ((with_reducible apply Zan); rfl; rfl; (exact (rfl : _ = Value.int _ _)))
  | ((with_reducible apply Zak); rfl; rfl; (exact (rfl : _ = Value.int _ _)))
  | ((with_reducible apply Zj); rfl; rfl; (exact (rfl : _ = Value.int _ _)); (exact (rfl : _ = Value.int _ _)); (first
  | with_reducible exact Zgy (by omega)
  | with_reducible exact Zhi (by omega)
  | with_reducible exact Za0 rfl (by omega) (by omega)
  | with_reducible exact Zna (by omega)))
  | ((with_reducible apply Zdm); rfl; rfl; (exact (rfl : _ = Value.int _ _)); (first
  | exact Zgl rfl rfl (by first | exact Zfc _ | rfl)
  | exact Zl8 rfl rfl (by omega) (by omega)))
  | with_reducible refine Za ?_
  | with_reducible refine Zf ?_
  | with_reducible refine Ze ?_
  | with_reducible refine Z0 ?_
  | with_reducible refine Zs ?_
  | with_reducible refine Zc ?_
  | ((with_reducible apply Zv); rfl)
  | ((with_reducible apply Zt); rfl))
 refine Zu ?_
 refine Zet (v := Iv _) rfl rfl ?_
 rw [k3]
 rw [b8, ← e8]
 congr 1 <;> omega
 have hlast : x.toNat < 256 := by omega
 obtain ⟨k1, k2⟩ := key x hlast
 have k3 := last x hlast
 repeat (first
  | ((with_reducible apply Zgs); rfl; rfl; exact (rfl : _ = Value.string _); exact (rfl : _ = Value.int _ _); exact Ze9 rfl rfl (by omega) (by kernel_rfl))
  | ((with_reducible apply Zan); rfl; rfl; (exact (rfl : _ = Value.int _ _)))
  | ((with_reducible apply Zak); rfl; rfl; (exact (rfl : _ = Value.int _ _)))
  | ((with_reducible apply Zj); rfl; rfl; (exact (rfl : _ = Value.int _ _)); (exact (rfl : _ = Value.int _ _)); (first
  | with_reducible exact Zhi (by omega)
  | with_reducible exact Za0 rfl (by omega) (by omega)))
  | ((with_reducible apply Zdm); rfl; rfl; (exact (rfl : _ = Value.int _ _)); (first
  | exact Zgl rfl rfl (by first | exact Zfc _ | rfl)
  | exact Zl8 rfl rfl (by omega) (by omega)))
  | with_reducible refine Za ?_
  | with_reducible refine Zf ?_
  | with_reducible refine Ze ?_
  | with_reducible refine Z0 ?_
  | with_reducible refine Zs ?_
  | with_reducible refine Zc ?_
  | ((with_reducible apply Zt); rfl))
 refine Zu ?_
 refine Zet (v := Iv _) rfl rfl ?_
 rw [k3]
 congr 1 <;> omega
end Go.Flat
end
section
namespace Go.Flat
open Go.Proofs
variable {G : Glob}
theorem Z5s (x : BitVec 64) : Z9 Tryd.prog G 72 [w64 x] [] (Iv (Za4 x.toNat)) [] := by
 refine Zbu (fn := Tryd.f72) (nt := 8) rfl rfl rfl rfl ?_
 refine Ze (Zf (Zb (Iv 0) (Za (Zc (Ze (Zt rfl (Z0 (Zc (Ze (Zf (Zd (w64 x) ?_)))))))))))
 refine Zp (Z0p (G := G) x) (vals := [w64 x]) (res' := Iv (((Za4 x.toNat) : Nat) : Int)) rfl rfl rfl rfl rfl rfl ?_
 refine Zb (Iv (((Za4 x.toNat) : Nat) : Int)) (Za (Zc (Zs (Zu ?_))))
 exact Zet (v := Iv (((Za4 x.toNat) : Nat) : Int)) rfl rfl rfl
def Zd2 (n : Int) : Int := if n < 2 then 0 else 2 ^ (Za4 (n - 1).toNat - 1)
theorem Zo9 (n : Int) (h : n ≤ 9223372036854775807) : Z9 Tryd.prog G 58 [Iv n] [] (Iv (Zd2 n)) [] := by
 refine Zbu (fn := Tryd.f58) (nt := 11) rfl rfl rfl rfl ?_
 refine Ze (Zf (Zb (Iv 0) (Za (Zc (Ze (Ze (Zf (Zd (Iv n) ?_))))))))
 by_cases h1 : n < 2
 refine Zj (vx := Iv n) (vy := Iv 2) rfl rfl (.bool true) rfl rfl (Zdd (by omega)) ?_
 refine Za (Zc (Zv rfl (Ze (Zf (Zb (Iv 0) (Za (Zc (Zs (Zaa (Zu ?_))))))))))
 rw [show Zd2 n = 0 from if_pos h1]
 exact Zet (v := Iv 0) rfl rfl rfl
 have hof : (BitVec.ofInt 64 (n - 1)).toNat = (n - 1).toNat := by rw [BitVec.toNat_ofInt]; omega
 have hb : Za4 (n - 1).toNat ≤ 63 := Zrb (by omega)
 have hb1 : 1 ≤ Za4 (n - 1).toNat := by unfold Za4; rw [if_neg (by omega)]; omega
 have hs : Zd2 n = 2 ^ ((((Za4 (BitVec.ofInt 64 (n - 1)).toNat) : Nat) : Int) - 1).toNat := by rw [Zd2, if_neg h1, hof]; congr 1; omega
 rw [← hof] at hb hb1
 refine Zj (vx := Iv n) (vy := Iv 2) rfl rfl (.bool false) rfl rfl (Zcw (by omega)) ?_
 refine Za (Zc (Zt rfl (Z0 (Zc (Ze (Zf (Zd (Iv n) ?_)))))))
 refine Zj (vx := Iv n) (vy := Iv 1) rfl rfl (Iv (n - 1)) rfl rfl (Zdg (by omega) (by omega) (by omega)) ?_
 refine Zdm (w := Iv (n - 1)) (v := w64 (BitVec.ofInt 64 (n - 1))) rfl rfl rfl (Zsl rfl rfl rfl) ?_
 refine Zp (Z5s (G := G) (BitVec.ofInt 64 (n - 1))) (vals := [w64 (BitVec.ofInt 64 (n - 1))]) (res' := Iv (((Za4 (BitVec.ofInt 64 (n - 1)).toNat) : Nat) : Int)) rfl rfl rfl rfl rfl rfl ?_
 refine Zj (vx := Iv (((Za4 (BitVec.ofInt 64 (n - 1)).toNat) : Nat) : Int)) (vy := Iv 1) rfl rfl (Iv ((((Za4 (BitVec.ofInt 64 (n - 1)).toNat) : Nat) : Int) - 1)) rfl rfl (Zdg (by omega) (by omega) (by omega)) ?_
 refine Zj (vx := Iv 1) (vy := Iv ((((Za4 (BitVec.ofInt 64 (n - 1)).toNat) : Nat) : Int) - 1)) rfl rfl (Iv (Zd2 n)) rfl rfl (hs ▸ Z4z (by omega) (by omega)) ?_
 refine Zb (Iv (Zd2 n)) (Za (Zc (Zs (Zu ?_))))
 exact Zet (v := Iv (Zd2 n)) rfl rfl rfl
end Go.Flat
end
section
namespace Go.Flat
open Go.Proofs
variable {G : Glob}
theorem Z3o (hG : G 2 = some (Z6 u8N 64 dbF)) (n : Nat) (h0 : 0 < n) (h1 : n < 18446744073709551616) : Z9 Tryd.prog G 78 [w64 (BitVec.ofNat 64 n)] [] (Iv (tz n)) [] := by
 refine Zbu (fn := Tryd.f78) (nt := 14) rfl rfl rfl rfl ?_
 generalize hx : BitVec.ofNat 64 n = x
 have hx0 : x.toNat = n := by rw [← hx, BitVec.toNat_ofNat]; omega
 have e : (((x &&& -x) * BitVec.ofInt 64 285870213051353865) >>> Int.toNat 58).toNat = ((x &&& -x) * BitVec.ofInt 64 285870213051353865).toNat / 288230376151711744 := by rw [Zfe]; rfl
 have hl := ((x &&& -x) * BitVec.ofInt 64 285870213051353865).isLt
 have hb := Z50 (((x &&& -x) * BitVec.ofInt 64 285870213051353865) >>> Int.toNat 58).toNat
 repeat (first
  | ((with_reducible apply Zi1); rfl; rfl; exact (rfl : _ = Value.int _ _); exact Z28 (ofI _ _))
  | ((with_reducible apply Zal); rfl; rfl; exact (rfl : _ = Value.pointer (some ⟨_, _, _⟩)); exact Zqz rfl hG (by omega) (fun _ => rfl))
  | ((with_reducible apply Zd0 (j := (((x &&& -x) * BitVec.ofInt 64 285870213051353865) >>> Int.toNat 58).toNat)); rfl; rfl; exact (rfl : _ = Value.pointer (some ⟨_, _, _⟩)); (exact (rfl : _ = Value.int _ _)); (exact (rfl : _ = some (_, 1))); omega; omega; omega)
  | ((with_reducible apply Zan); rfl; rfl; (exact (rfl : _ = Value.int _ _)))
  | ((with_reducible apply Zak); rfl; rfl; (exact (rfl : _ = Value.int _ _)))
  | ((with_reducible apply Zj); rfl; rfl; (exact (rfl : _ = Value.int _ _)); (exact (rfl : _ = Value.int _ _)); (first
  | with_reducible exact Zgm (by omega)
  | with_reducible exact Z5h (by first | exact ofI _ _ | rfl) (by first | exact ofI _ _ | rfl)
  | with_reducible exact Z5f (by first | exact ofI _ _ | rfl) (by first | exact ofI _ _ | rfl)
  | with_reducible exact Zna (by omega)))
  | ((with_reducible apply Zdm); rfl; rfl; (exact (rfl : _ = Value.int _ _)); (exact Zl8 rfl rfl (by omega) (by omega)))
  | with_reducible refine Za ?_
  | with_reducible refine Zf ?_
  | with_reducible refine Ze ?_
  | with_reducible refine Z0 ?_
  | with_reducible refine Zs ?_
  | with_reducible refine Zc ?_
  | ((with_reducible apply Zt); rfl))
 refine Zu ?_
 refine Zet (v := Iv _) rfl rfl ?_
 have := Z7j h0 (by omega)
 simp only [hx] at this
 rw [← this]
 rfl
theorem Z6o (hG : G 2 = some (Z6 u8N 64 dbF)) (n : Nat) (h0 : 0 < n) (h1 : n < 18446744073709551616) : Z9 Tryd.prog G 64 [w64 (BitVec.ofNat 64 n)] [] (Iv (tz n)) [] := by
 refine Zbu (fn := Tryd.f64) (nt := 8) rfl rfl rfl rfl ?_
 repeat (first
  | ((with_reducible apply Zan); rfl; rfl; (exact (rfl : _ = Value.int _ _)))
  | ((with_reducible apply Zak); rfl; rfl; (exact (rfl : _ = Value.int _ _)))
  | ((with_reducible apply Zp (Z3o hG n h0 h1)); rfl; rfl; rfl; rfl; rfl; (exact (rfl : _ = Value.int _ _)))
  | with_reducible refine Za ?_
  | with_reducible refine Zf ?_
  | with_reducible refine Ze ?_
  | with_reducible refine Z0 ?_
  | with_reducible refine Zs ?_
  | with_reducible refine Zc ?_
  | ((with_reducible apply Zt); rfl))
 refine Zu ?_
 exact Zet (v := Iv _) rfl rfl rfl
end Go.Flat
end
section
namespace Go.Flat
open Go.Proofs
variable {G : Glob}
abbrev D := Nat → BitVec 8
def dsC (ds : List D) : List Value := (ds.map (Z6 w8 32)).flatten
def dsB (ds : List D) : Blk := { cells := dsC ds, sz := 32, wr := true, fix := false, mv := true, pur := true }
def dsR (ds : List D) : Blk := { cells := dsC ds, sz := 32, wr := false, fix := false, mv := true, pur := true }
def Zqr (v : Value) : Blk := { cells := [v], sz := 1, wr := true, fix := true, mv := false, pur := false }
theorem Zb7 (ds : List D) : (dsC ds).length = ds.length * 32 := by
 induction ds with
 | nil => rfl
 | cons d ds ih => simp only [dsC, List.map_cons, List.flatten_cons, List.length_append, Zbt, List.length_cons] at ih ⊢; omega
theorem Zi9 (p q : List D) : dsC (p ++ q) = dsC p ++ dsC q := by simp [dsC]
theorem Zpm (p q : List D) : (dsC (p ++ q)).drop (p.length * 32) = dsC q := by
 rw [Zi9, List.drop_append_of_le_length (by rw [Zb7]; exact Nat.le_refl _), List.drop_of_length_le (by rw [Zb7]; exact Nat.le_refl _), List.nil_append]
theorem Zpn (p q : List D) : (dsC (p ++ q)).take (p.length * 32) = dsC p := by
 rw [Zi9, List.take_append_of_le_length (by rw [Zb7]; exact Nat.le_refl _), List.take_of_length_le (by rw [Zb7]; exact Nat.le_refl _)]
theorem Zhh (d : D) (q : List D) : dsC (d :: q) = Z6 w8 32 d ++ dsC q := by simp [dsC]
theorem Zwj (p : List D) (a : D) (q : List D) : ((dsC (p ++ a :: q)).drop (p.length * 32)).take 32 = Z6 w8 32 a := by
 rw [Zpm, Zhh, List.take_append_of_le_length (by rw [Zbt]; exact Nat.le_refl _), List.take_of_length_le (by rw [Zbt]; exact Nat.le_refl _)]
theorem Z3z (p : List D) (a b : D) (q : List D) : ((dsC (p ++ a :: b :: q)).drop ((p.length + 1) * 32)).take 32 = Z6 w8 32 b := by
 have := Zwj (p ++ [a]) b q
 simpa using this
theorem Zrx {n : Nat} (d : D) : (Z6 w8 n d).all Zbj = true := Zqi fun _ => rfl
set_option maxHeartbeats 4000000 in
theorem Z1t (kk : Nat → BitVec 32) (hG : G 0 = some (Z6 w32 64 kk)) (p : List D) (a b : D) (hp : p.length ≤ 1000000) :
  Z9 Tryd.prog G 63 [pt 0 0] [Zqr (slv 1 0 (p.length + 2) (p.length + 2)), dsB (p ++ [a, b])] (.tuple #[]) [Zqr (slv 1 0 (p.length + 1) (p.length + 1)), dsB (p ++ [Zf6 kk a b])] := by
 refine Zbu (fn := Tryd.f63) (nt := 21) rfl rfl rfl rfl ?_
 refine Zaj 1 (H' := [Zqr (slv 1 0 (p.length + 2) (p.length + 2)), dsB (p ++ [a, b]), hole]) rfl ?_
 have hlen : (dsB (p ++ [a, b])).cells.length = (p.length + 2) * 32 := by show (dsC (p ++ [a, b])).length = _; rw [Zb7]; simp
 repeat (first
  | ((with_reducible apply Zda); rfl; rfl; exact (rfl : _ = Value.slice (some ⟨_, _, _⟩) _ _); rfl; rfl; exact Zhp (h := p.length) rfl rfl (by omega) (by omega) rfl)
  | ((with_reducible apply Zal); rfl; rfl; exact (rfl : _ = Value.pointer (some ⟨1, _, _⟩)); first | exact Zcu (n := 32) rfl rfl (by omega) (Zwj p a [b]) | exact Zcu (n := 32) rfl rfl (by omega) (Z3z p a b []))
  | ((with_reducible apply Zel (nid := 2)); rfl; rfl; rfl; exact (rfl : _ = some (Value.slice _ _ _, _)); exact (rfl : _ = _ :: _))
  | ((with_reducible apply Zc9); rfl; rfl; rfl; exact .inl ⟨_, rfl⟩; exact (rfl : _ = Value.slice (some ⟨_, _, _⟩) _ _); exact (rfl : _ = Value.slice (some ⟨_, _, _⟩) _ _); exact Zeo (n' := p.length + 1) (rfl : _ = some (32, _, 32)) (rfl : _ = some (1, _)) rfl rfl rfl rfl rfl (by rw [hlen]; omega) (by decide) rfl (by omega); rfl; exact (rfl : _ = _ :: _))
  | ((with_reducible apply Zbs (j := p.length * 32)); rfl; rfl; exact (rfl : _ = Value.slice (some ⟨_, _, _⟩) _ _); (exact (rfl : _ = Value.int _ _)); (exact (rfl : _ = some (_, 32))); omega; omega; omega)
  | ((with_reducible apply Zbs (j := (p.length + 1) * 32)); rfl; rfl; exact (rfl : _ = Value.slice (some ⟨_, _, _⟩) _ _); (exact (rfl : _ = Value.int _ _)); (exact (rfl : _ = some (_, 32))); omega; omega; omega)
  | ((with_reducible apply Zan); rfl; rfl; (exact (rfl : _ = Value.int _ _)))
  | ((with_reducible apply Zak); rfl; rfl; (exact (rfl : _ = Value.int _ _)))
  | ((with_reducible apply Zj); rfl; rfl; (exact (rfl : _ = Value.int _ _)); (exact (rfl : _ = Value.int _ _)); (with_reducible exact Zdg rfl (by omega) (by omega)))
  | ((with_reducible apply Zal); rfl; rfl; exact (rfl : _ = Value.pointer (some ⟨_, _, _⟩)); (exact (rfl : _ = some (Value.slice _ _ _))))
  | ((with_reducible apply Ze6); rfl; rfl; (exact (rfl : _ = Value.slice _ _ _)); (exact (rfl : _ = some (Value.int _ _))))
  | ((with_reducible apply Za1); rfl; exact (rfl : _ = Value.pointer (some ⟨_, _, _⟩)); (exact (rfl : _ = Value.slice _ _ _)); (rfl); exact (rfl : _ = _ :: _))
  | ((with_reducible apply Zp (Zr9 kk hG a b)); rfl; rfl; rfl; rfl; rfl; (exact (rfl : _ = Value.agg _)))
  | with_reducible refine Za ?_
  | with_reducible refine Zf ?_
  | with_reducible refine Ze ?_
  | with_reducible refine Zc ?_
  | (with_reducible refine Zdq (by kernel_rfl) ?_)
  | (with_reducible refine Zer (by kernel_rfl) ?_))
 refine Zkr ?_
 refine Zm (v := .tuple #[]) rfl ?_ rfl ?_ trivial
 ·have hq : List.take (p.length * 32) (List.drop 0 (dsC (p ++ [a, b]))) ++ Z6 w8 32 (Zf6 kk a b) = dsC (p ++ [Zf6 kk a b]) := by
   rw [List.drop_zero, Zpn, Zi9, Zhh]; simp [dsC]
  exact congrArg (fun q => [Zqr (slv 1 0 (p.length + 1) (p.length + 1)), ({ cells := q, sz := 32, wr := true, fix := false, mv := true, pur := true } : Blk)]) hq
 ·rfl
end Go.Flat
end
section
namespace Go.Flat
open Go.Proofs
variable {G : Glob}
def d0 : D := fun _ => 0
def Zh8 (kk : Nat → BitVec 32) (P : List D) : List D := P.take (P.length - 2) ++ [Zf6 kk (P.getD (P.length - 2) d0) (P.getD (P.length - 1) d0)]
def Zec (kk : Nat → BitVec 32) : Nat → List D → List D
  | 0, P => P
  | n + 1, P => Zh8 kk (Zec kk n P)
def Zkh (kk : Nat → BitVec 32) (ds : List D) : Nat → List D
  | 0 => []
  | i + 1 => Zec kk (tz (i + 1)) (Zkh kk ds i ++ [ds.getD i d0])
theorem Zrn (kk : Nat → BitVec 32) {P : List D} (h : 2 ≤ P.length) : (Zh8 kk P).length = P.length - 1 := by simp [Zh8]; omega
theorem Ziv (kk : Nat → BitVec 32) {P : List D} : ∀ n, n + 1 ≤ P.length → (Zec kk n P).length = P.length - n
 | 0, _ => rfl
 | n + 1, h => by
  have := Ziv kk (P := P) n (by omega)
  simp only [Zec]
  rw [Zrn kk (by omega), this]; omega
theorem Zk4 (kk : Nat → BitVec 32) (ds : List D) : ∀ i, (Zkh kk ds i).length = Zn1 i
 | 0 => rfl
 | i + 1 => by
  have h1 := Zk4 kk ds i
  have h2 := (Zs0 i).1
  simp only [Zkh, Zn1]
  rw [Ziv kk _ (by simp; omega)]
  simp; omega
def Zcf (kk : Nat → BitVec 32) (ds : List D) : D := if ds.length = 0 then Zcx kk [] else (Zec kk (Zn1 ds.length - 1) (Zkh kk ds ds.length)).getD 0 d0
theorem Z25 {P : List D} (h : 2 ≤ P.length) : P = P.take (P.length - 2) ++ [P.getD (P.length - 2) d0, P.getD (P.length - 1) d0] := by
 apply List.ext_getElem?
 intro i
 have hl : (P.take (P.length - 2)).length = P.length - 2 := by simp
 rcases Nat.lt_or_ge i (P.length - 2) with h1 | h1
 ·rw [List.getElem?_append_left (by omega), List.getElem?_take, if_pos h1]
 ·rw [List.getElem?_append_right (by omega), hl]
  rcases Nat.lt_or_ge i P.length with h2 | h2
  ·rcases Nat.eq_or_lt_of_le h1 with h3 | h3
   ·subst h3; simp [List.getD_eq_getElem?_getD]; rw [List.getElem?_eq_getElem (by omega)]; simp
   ·have : i = P.length - 1 := by omega
    subst this
    have e : P.length - 1 - (P.length - 2) = 1 := by omega
    rw [e]
    simp [List.getD_eq_getElem?_getD]; rw [List.getElem?_eq_getElem (by omega)]; simp
  ·rw [List.getElem?_eq_none h2, List.getElem?_eq_none (by simp; omega)]
theorem Zrm (kk : Nat → BitVec 32) (hG : G 0 = some (Z6 w32 64 kk)) (P : List D) (h2 : 2 ≤ P.length) (hp : P.length ≤ 1000000) :
  Z9 Tryd.prog G 63 [pt 0 0] [Zqr (slv 1 0 P.length P.length), dsB P] (.tuple #[]) [Zqr (slv 1 0 (Zh8 kk P).length (Zh8 kk P).length), dsB (Zh8 kk P)] := by
 have h := Z1t (G := G) kk hG (P.take (P.length - 2)) (P.getD (P.length - 2) d0) (P.getD (P.length - 1) d0) (by simp; omega)
 rw [← Z25 h2] at h
 have e1 : (P.take (P.length - 2)).length + 2 = P.length := by simp; omega
 have e2 : (P.take (P.length - 2)).length + 1 = (Zh8 kk P).length := by rw [Zrn kk h2]; simp; omega
 rw [e1, e2] at h
 exact h
end Go.Flat
end
section
namespace Go.Flat
open Go.Proofs
variable {G : Glob}
theorem Zja (ds : List D) (i : Nat) (h : i < ds.length) : ((dsC ds).drop (i * 32)).take 32 = Z6 w8 32 (ds.getD i d0) := by
 have e : ds = ds.take i ++ ds[i] :: ds.drop (i + 1) := by rw [← List.drop_eq_getElem_cons h, List.take_append_drop]
 have h2 := Zwj (ds.take i) ds[i] (ds.drop (i + 1))
 rw [← e] at h2
 rw [show (ds.take i).length = i from by simp; omega] at h2
 rw [h2]
 congr 1
 simp [List.getD_eq_getElem?_getD, h]
set_option maxHeartbeats 8000000 in
theorem Zsd (kk : Nat → BitVec 32) (hG : G 0 = some (Z6 w32 64 kk)) (hG1 : G 2 = some (Z6 u8N 64 dbF)) (ds : List D) (c : Nat) (hn : ds.length ≤ 1000000) (hc : ds.length ≤ c) :
  Z9 Tryd.prog G 40 [slv 0 0 ds.length c] [dsR ds] (dgV (Zcf kk ds)) [dsR ds] := by
 refine Zbu (fn := Tryd.f40) (nt := 41) rfl rfl rfl rfl ?_
 have hR : (dsR ds).cells.length = ds.length * 32 := Zb7 ds
 by_cases h0 : ds.length = 0
 ·refine Zaj 1 (H' := [dsR ds, hole]) rfl ?_
  repeat (first
   | ((with_reducible apply Zan); rfl; rfl; (exact (rfl : _ = Value.slice _ _ _)))
   | ((with_reducible apply Zj); rfl; rfl; (exact (rfl : _ = Value.int _ _)); (exact (rfl : _ = Value.int _ _)); (with_reducible exact Zeb (by omega)))
   | ((with_reducible apply Ze6); rfl; rfl; (exact (rfl : _ = Value.slice _ _ _)); (exact (rfl : _ = some (Value.int _ _))))
   | ((with_reducible apply Za1); rfl; exact (rfl : _ = Value.pointer (some ⟨_, _, _⟩)); (exact (rfl : _ = Value.agg _)); (rfl); exact (rfl : _ = _ :: _))
   | ((with_reducible apply Zcb (nid := 1)); rfl; rfl; rfl; exact (rfl : _ = _ :: _))
   | ((with_reducible apply Zp (Z0g kk hG)); rfl; rfl; rfl; rfl; rfl; (exact (rfl : _ = Value.agg _)))
   | with_reducible refine Za ?_
   | with_reducible refine Zf ?_
   | with_reducible refine Ze ?_
   | with_reducible refine Zs ?_
   | with_reducible refine Zc ?_
   | with_reducible refine Zaa ?_
   | ((with_reducible apply Zv); rfl))
  refine Zu ?_
  refine Zm (v := dgV (Zcx kk [])) rfl rfl rfl ?_ ?_
  ·simp [Zbe, dsR]
  ·exact Zc0 (Zcj fun _ => rfl) (by unfold Zcf; rw [if_pos h0])
 ·refine Zaj 2 (H' := [dsR ds, hole, hole]) rfl ?_
  repeat (first
   | ((with_reducible apply Zan); rfl; rfl; (first
   | exact (rfl : _ = Value.int _ _)
   | exact (rfl : _ = Value.slice _ _ _)))
   | ((with_reducible apply Zak); rfl; rfl; (exact (rfl : _ = Value.func _ _ _)))
   | ((with_reducible apply Zj); rfl; rfl; (exact (rfl : _ = Value.int _ _)); (exact (rfl : _ = Value.int _ _)); (with_reducible exact Zgm (by omega)))
   | ((with_reducible apply Zn6); rfl; rfl; (exact (rfl : _ = [])); (exact (rfl : _ = [_])); rfl)
   | ((with_reducible apply Ze6); rfl; rfl; (exact (rfl : _ = Value.slice _ _ _)); (exact (rfl : _ = some (Value.int _ _))))
   | ((with_reducible apply Zcb (nid := 1)); rfl; rfl; rfl; exact (rfl : _ = _ :: _))
   | ((with_reducible apply Zcb (nid := 2)); rfl; rfl; rfl; exact (rfl : _ = _ :: _))
   | with_reducible refine Za ?_
   | with_reducible refine Zf ?_
   | with_reducible refine Ze ?_
   | with_reducible refine Z5 ?_
   | with_reducible refine Z0 ?_
   | with_reducible refine Zc ?_
   | ((with_reducible apply Zt); rfl))
  refine Zb5 (Zbo.nilCell (k := 2) (j := 0) (b := 3) true 32 rfl (by decide) rfl (by show 0 < 1; decide) rfl rfl) ?_
  refine Zck (fun i : Nat => [dead, dead, pt 1 0, pt 2 0, .func (.func 63) #[] #[pt 2 0]] ++ List.replicate 7 dead ++ [slv 0 0 ds.length c, Iv ds.length, Iv (i : Nat)])
   (fun i => [dsR ds, dgB (fun _ => 0), Zqr (slv 3 0 (Zkh kk ds i).length (Zkh kk ds i).length), dsB (Zkh kk ds i)]) (fun i => i ≤ ds.length) (fun i => ds.length - i) 0 (by omega) ?_ ?_
  ·refine Zam (n := 4) rfl ?_ rfl rfl
   repeat (first | exact trivial | refine ⟨.inl rfl, ?_⟩ | refine ⟨.inr ⟨rfl, rfl⟩, ?_⟩)
  ·intro i hi
   by_cases hlt : i < ds.length
   ·have hpl := Zk4 kk ds i
    obtain ⟨ok1, ok2, ok3⟩ := Zs0 i
    generalize hP : Zkh kk ds i = P at hpl
    have hPl : (P ++ [ds.getD i d0]).length = Zn1 i + 1 := by simp [hpl]
    refine Zaj 2 (H' := [dsR ds, dgB (fun _ => 0), Zqr (slv 3 0 P.length P.length), dsB P, hole, hole]) rfl ?_
    have hBl : (dsB P).cells.length = P.length * 32 := Zb7 P
    have htz : (BitVec.ofInt 64 ((i : Int) + 1)) = BitVec.ofNat 64 (i + 1) := by rw [show ((i : Int) + 1) = ((i + 1 : Nat) : Int) from rfl, BitVec.ofInt_natCast]
    repeat (first
     | ((with_reducible apply Zal); rfl; rfl; exact (rfl : _ = Value.pointer (some ⟨0, _, _⟩)); exact Zcu (n := 32) rfl rfl (by omega) (Zja ds i hlt))
     | ((with_reducible apply Zel (nid := 5)); rfl; rfl; rfl; exact (rfl : _ = some (Value.slice _ _ _, _)); exact (rfl : _ = _ :: _))
     | ((with_reducible apply Zc9); rfl; rfl; rfl; exact .inl ⟨_, rfl⟩; exact (rfl : _ = Value.slice (some ⟨_, _, _⟩) _ _); exact (rfl : _ = Value.slice (some ⟨_, _, _⟩) _ _); exact Zeo (n' := (P ++ [ds.getD i d0]).length) (rfl : _ = some (32, _, 32)) (rfl : _ = some (1, _)) rfl rfl rfl rfl rfl (by rw [hBl]; omega) (by decide) (by simp) (by omega); rfl; exact (rfl : _ = _ :: _))
     | ((with_reducible apply Zdm); rfl; rfl; exact (rfl : _ = Value.int _ _); exact Zsl rfl rfl htz)
     | ((with_reducible apply Zbs (j := i * 32)); rfl; rfl; exact (rfl : _ = Value.slice (some ⟨_, _, _⟩) _ _); (exact (rfl : _ = Value.int _ _)); (exact (rfl : _ = some (_, 32))); omega; omega; omega)
     | ((with_reducible apply Zan); rfl; rfl; (exact (rfl : _ = Value.int _ _)))
     | ((with_reducible apply Zak); rfl; rfl; (exact (rfl : _ = Value.int _ _)))
     | ((with_reducible apply Zj); rfl; rfl; (exact (rfl : _ = Value.int _ _)); (exact (rfl : _ = Value.int _ _)); (first
     | with_reducible exact Zdd (by omega)
     | with_reducible exact Za0 rfl (by omega) (by omega)))
     | ((with_reducible apply Zal); rfl; rfl; exact (rfl : _ = Value.pointer (some ⟨_, _, _⟩)); (first
     | exact (rfl : _ = some (Value.slice _ _ _))
     | exact (rfl : _ = some (Value.agg _))))
     | ((with_reducible apply Za1); rfl; exact (rfl : _ = Value.pointer (some ⟨_, _, _⟩)); (first
     | exact (rfl : _ = Value.slice _ _ _)
     | exact (rfl : _ = Value.agg _)); (rfl); exact (rfl : _ = _ :: _))
     | ((with_reducible apply Zcb (nid := 4)); rfl; rfl; rfl; exact (rfl : _ = _ :: _))
     | ((with_reducible apply Zp (Z6o hG1 (i + 1) (by omega) (by omega))); rfl; rfl; rfl; rfl; rfl; (exact (rfl : _ = Value.int _ _)))
     | with_reducible refine Za ?_
     | with_reducible refine Zf ?_
     | with_reducible refine Ze ?_
     | with_reducible refine Z5 ?_
     | with_reducible refine Z0 ?_
     | with_reducible refine Zc ?_
     | ((with_reducible apply Zv); rfl))
    have hcat : List.take (P.length * 32) (List.drop 0 (dsC P)) ++ Z6 w8 32 (ds.getD i d0) = dsC (P ++ [ds.getD i d0]) := by
     rw [List.drop_zero, List.take_of_length_le (by rw [Zb7]; exact Nat.le_refl _), Zi9, Zhh]; simp [dsC]
    refine Zck (fun t : Nat => [dead, dead, pt 1 0, pt 2 0, .func (.func 63) #[] #[pt 2 0]] ++ List.replicate 7 dead ++ [slv 0 0 ds.length c, Iv ds.length, Iv (i : Nat)] ++ List.replicate 11 dead ++ [Iv (tz (i + 1)), Iv (t : Nat)])
     (fun t => [dsR ds, dgB (fun _ => 0), Zqr (slv 3 0 (Zec kk t (P ++ [ds.getD i d0])).length (Zec kk t (P ++ [ds.getD i d0])).length), dsB (Zec kk t (P ++ [ds.getD i d0])), dgB (ds.getD i d0)]) (fun t => t ≤ tz (i + 1)) (fun t => tz (i + 1) - t) 0 (by omega) ?_ ?_
    ·refine Zam (n := 5) rfl ?_ ?_ rfl
     repeat (first | exact trivial | refine ⟨.inl rfl, ?_⟩ | refine ⟨.inr ⟨rfl, rfl⟩, ?_⟩)
     ·exact congrArg (fun q => [dsR ds, dgB (fun _ => 0), Zqr (slv 3 0 (P ++ [ds.getD i d0]).length (P ++ [ds.getD i d0]).length), ({ cells := q, sz := 32, wr := true, fix := false, mv := true, pur := true } : Blk), dgB (ds.getD i d0)]) hcat
    ·intro t ht
     have hQl := Ziv kk (P := P ++ [ds.getD i d0]) t (by omega)
     by_cases hlt2 : t < tz (i + 1)
     ·generalize hQ : Zec kk t (P ++ [ds.getD i d0]) = Q at hQl
      repeat (first
       | ((with_reducible apply Zc2 (e := [some (2, 0), some (3, 0)]) (nid := 0) (Zrm kk hG Q (by omega) (by omega))); rfl; rfl; rfl; rfl; rfl; rfl; refine ⟨⟨⟨rfl, rfl⟩, trivial⟩, ⟨Zaw rfl rfl rfl rfl, Zaw rfl rfl rfl rfl, trivial⟩, rfl, rfl, rfl, Nat.le_refl _⟩; exact (rfl : _ = Value.tuple _); rfl; exact (rfl : _ = _ :: _))
       | ((with_reducible apply Zan); rfl; rfl; (first
       | exact (rfl : _ = Value.int _ _)
       | exact (rfl : _ = Value.func _ _ _)))
       | ((with_reducible apply Zj); rfl; rfl; (exact (rfl : _ = Value.int _ _)); (exact (rfl : _ = Value.int _ _)); (first
       | with_reducible exact Zdd (by omega)
       | with_reducible exact Za0 rfl (by omega) (by omega)))
       | with_reducible refine Za ?_
       | with_reducible refine Zf ?_
       | with_reducible refine Ze ?_
       | with_reducible refine Z5 ?_
       | with_reducible refine Z0 ?_
       | with_reducible refine Zc ?_
       | with_reducible refine Zz ?_
       | ((with_reducible apply Zv); rfl))
      subst hQ
      refine Zas ⟨t + 1, by omega, by omega, ?_⟩
      refine Zam (n := 5) rfl ?_ rfl rfl
      repeat (first | exact trivial | refine ⟨.inl rfl, ?_⟩ | refine ⟨.inr ⟨rfl, rfl⟩, ?_⟩)
     ·obtain rfl : t = tz (i + 1) := by omega
      repeat (first
       | ((with_reducible apply Zan); rfl; rfl; (exact (rfl : _ = Value.int _ _)))
       | ((with_reducible apply Zj); rfl; rfl; (exact (rfl : _ = Value.int _ _)); (exact (rfl : _ = Value.int _ _)); (first
       | with_reducible exact Zcw (by omega)
       | with_reducible exact Za0 rfl (by omega) (by omega)))
       | with_reducible refine Za ?_
       | with_reducible refine Zf ?_
       | with_reducible refine Ze ?_
       | with_reducible refine Zbn ?_
       | with_reducible refine Zc ?_
       | with_reducible refine Zat ?_
       | with_reducible refine Zz ?_
       | with_reducible refine Za3 ?_
       | ((with_reducible apply Zt); rfl)
       | ((with_reducible apply Zay); rfl))
      subst hP
      refine Zas ⟨i + 1, by omega, by omega, ?_⟩
      refine Zam (n := 4) rfl ?_ rfl rfl
      repeat (first | exact trivial | refine ⟨.inl rfl, ?_⟩ | refine ⟨.inr ⟨rfl, rfl⟩, ?_⟩)
   ·obtain rfl : i = ds.length := by omega
    have hpl := Zk4 kk ds ds.length
    obtain ⟨ok1, ok2, ok3⟩ := Zs0 (ds.length - 1)
    rw [show ds.length - 1 + 1 = ds.length from by omega] at ok2
    have hle : Zn1 ds.length ≤ ds.length := by
     exact Zsz _
    generalize hP : Zkh kk ds ds.length = P at hpl
    repeat (first
     | ((with_reducible apply Zj); rfl; rfl; (exact (rfl : _ = Value.int _ _)); (exact (rfl : _ = Value.int _ _)); (with_reducible exact Zcw (by omega)))
     | with_reducible refine Za ?_
     | with_reducible refine Zf ?_
     | with_reducible refine Ze ?_
     | with_reducible refine Z5 ?_
     | with_reducible refine Zbn ?_
     | with_reducible refine Zc ?_
     | with_reducible refine Zat ?_
     | with_reducible refine Za3 ?_
     | ((with_reducible apply Zt); rfl)
     | ((with_reducible apply Zay); rfl))
    refine Zck (fun t : Nat => [dead, dead, pt 1 0, pt 2 0, .func (.func 63) #[] #[pt 2 0]])
     (fun t => [dsR ds, dgB (fun _ => 0), Zqr (slv 3 0 (Zec kk t P).length (Zec kk t P).length), dsB (Zec kk t P)]) (fun t => t + 1 ≤ P.length) (fun t => P.length - t) 0 (by omega) ?_ ?_
    ·subst hP
     refine Zam (n := 4) rfl ?_ rfl rfl
     repeat (first | exact trivial | refine ⟨.inl rfl, ?_⟩ | refine ⟨.inr ⟨rfl, rfl⟩, ?_⟩)
    ·intro t ht
     have hQl := Ziv kk (P := P) t ht
     by_cases hlt2 : t + 2 ≤ P.length
     ·generalize hQ : Zec kk t P = Q at hQl
      repeat (first
       | ((with_reducible apply Zc2 (e := [some (2, 0), some (3, 0)]) (nid := 0) (Zrm kk hG Q (by omega) (by omega))); rfl; rfl; rfl; rfl; rfl; rfl; refine ⟨⟨⟨rfl, rfl⟩, trivial⟩, ⟨Zaw rfl rfl rfl rfl, Zaw rfl rfl rfl rfl, trivial⟩, rfl, rfl, rfl, Nat.le_refl _⟩; exact (rfl : _ = Value.tuple _); rfl; exact (rfl : _ = _ :: _))
       | ((with_reducible apply Zan); rfl; rfl; (exact (rfl : _ = Value.func _ _ _)))
       | ((with_reducible apply Zj); rfl; rfl; (exact (rfl : _ = Value.int _ _)); (exact (rfl : _ = Value.int _ _)); (with_reducible exact Ze3 (by omega)))
       | ((with_reducible apply Zal); rfl; rfl; exact (rfl : _ = Value.pointer (some ⟨_, _, _⟩)); (exact (rfl : _ = some (Value.slice _ _ _))))
       | ((with_reducible apply Ze6); rfl; rfl; (exact (rfl : _ = Value.slice _ _ _)); (exact (rfl : _ = some (Value.int _ _))))
       | with_reducible refine Za ?_
       | with_reducible refine Zf ?_
       | with_reducible refine Ze ?_
       | with_reducible refine Z5 ?_
       | with_reducible refine Z0 ?_
       | with_reducible refine Zc ?_
       | with_reducible refine Zz ?_
       | ((with_reducible apply Zv); rfl))
      subst hQ
      refine Zas ⟨t + 1, by omega, by omega, ?_⟩
      refine Zam (n := 4) rfl ?_ rfl rfl
      repeat (first | exact trivial | refine ⟨.inl rfl, ?_⟩ | refine ⟨.inr ⟨rfl, rfl⟩, ?_⟩)
     ·have ht1 : t = P.length - 1 := by omega
      have hQ1 : (Zec kk t P).length = 1 := by omega
      have hroot : (Zec kk t P).getD 0 d0 = Zcf kk ds := by
       unfold Zcf; rw [if_neg h0, hP, ← hpl, ← ht1]
      have hat := Zja (Zec kk t P) 0 (by omega)
      rw [hroot] at hat
      have hBl : (dsB (Zec kk t P)).cells.length = 32 := by show (dsC _).length = _; rw [Zb7, hQ1]
      generalize hQ : Zec kk t P = Q at hQl hQ1 hat hBl
      repeat (first
       | ((with_reducible apply Zal); rfl; rfl; exact (rfl : _ = Value.pointer (some ⟨3, _, _⟩)); exact Zcu (n := 32) rfl rfl (by omega) hat)
       | ((with_reducible apply Zbs (j := 0)); rfl; rfl; exact (rfl : _ = Value.slice (some ⟨_, _, _⟩) _ _); (exact (rfl : _ = Value.int _ _)); (exact (rfl : _ = some (_, 32))); omega; omega; omega)
       | ((with_reducible apply Zj); rfl; rfl; (exact (rfl : _ = Value.int _ _)); (exact (rfl : _ = Value.int _ _)); (with_reducible exact Ze2 (by omega)))
       | ((with_reducible apply Zal); rfl; rfl; exact (rfl : _ = Value.pointer (some ⟨_, _, _⟩)); (exact (rfl : _ = some (Value.slice _ _ _))))
       | ((with_reducible apply Ze6); rfl; rfl; (exact (rfl : _ = Value.slice _ _ _)); (exact (rfl : _ = some (Value.int _ _))))
       | ((with_reducible apply Za1); rfl; exact (rfl : _ = Value.pointer (some ⟨_, _, _⟩)); (exact (rfl : _ = Value.agg _)); (rfl); exact (rfl : _ = _ :: _))
       | with_reducible refine Za ?_
       | with_reducible refine Zf ?_
       | with_reducible refine Ze ?_
       | with_reducible refine Zbn ?_
       | with_reducible refine Zs ?_
       | with_reducible refine Zc ?_
       | with_reducible refine Zat ?_
       | with_reducible refine Za3 ?_
       | ((with_reducible apply Zt); rfl)
       | ((with_reducible apply Zay); rfl))
      refine Zu ?_
      refine Zm (v := dgV (Zcf kk ds)) rfl rfl rfl ?_ ?_
      ·simp [Zbe, dsR]
      ·exact Zc0 (Zcj fun _ => rfl) rfl
end Go.Flat
end
section
namespace Go.Flat
open Go.Proofs
variable {G : Glob}
def sameDs (us vs : List D) : Bool := us.length == vs.length && (List.range us.length).all fun i => Zcg 32 (us.getD i d0) (vs.getD i d0)
end Go.Flat
end
section
namespace Go.Flat
open Go.Proofs
variable {G : Glob}
theorem Z30 (Q : List D) (i : Nat) (d : D) (h : i < Q.length) : splice (dsC Q) (i * 32) (Z6 w8 32 d) = dsC (Q.set i d) := by
 have e : Q = Q.take i ++ Q[i] :: Q.drop (i + 1) := by rw [← List.drop_eq_getElem_cons h, List.take_append_drop]
 have hl : (Q.take i).length = i := by simp; omega
 have h1 : (dsC Q).take (i * 32) = dsC (Q.take i) := by
  have := Zpn (Q.take i) (Q[i] :: Q.drop (i + 1))
  rw [← e, hl] at this; exact this
 have h2 : (dsC Q).drop (i * 32 + 32) = dsC (Q.drop (i + 1)) := by
  have := Zpm (Q.take (i + 1)) (Q.drop (i + 1))
  rw [List.take_append_drop] at this
  rw [show (Q.take (i + 1)).length = i + 1 from by simp; omega] at this
  rw [← this]; congr 1; omega
 unfold splice
 rw [h1, Zbt, h2, List.set_eq_take_append_cons_drop, if_pos h, Zi9, Zhh, List.append_assoc]
theorem Zi3 {P : Program} {t : TypeId} {H : List Blk} {b o i : Nat} {blk : Blk} {Q : List D} {d : D} (hk : Zej P t = some (true, 32)) (hb : H[b]? = some blk) (hw : blk.wr = true) (hc : blk.cells = dsC Q) (hi : i < Q.length) (ho : o = i * 32) :
  Zfg P t H (.pointer (some ⟨b, o, none⟩)) (dgV d) = some (b, { blk with cells := dsC (Q.set i d) }) := by
 subst ho
 unfold Zfg
 rw [hk]
 simp only [hb, Option.bind_some, hw, hc]
 rw [if_pos]
 ·have e : (dgV d).cells.toList = Z6 w8 32 d := rfl
  rw [e, Z30 Q i d hi]
 ·have h1 : (Z6 w8 32 d).all Zbj = true := Zrx d
  have h2 : (Z6 w8 32 d).all Zi2 = true := Zqi fun _ => rfl
  simp only [Bool.true_and, Bool.and_eq_true, decide_eq_true_eq, beq_iff_eq, Zb7]
  refine ⟨⟨by show (Z6 w8 32 d).toArray.size = 32; simp [Zbt], ?_⟩, by omega⟩
  show Zdy blk.pur (Z6 w8 32 d) = true
  unfold Zdy
  split
  ·exact h1
  ·exact h2
def Zj0 (P : List D) : Nat → List D
  | 0 => P
  | i + 1 => ((Zj0 P i).set i ((Zj0 P i).getD (P.length - 1 - i) d0)).set (P.length - 1 - i) ((Zj0 P i).getD i d0)
theorem Zm9 (P : List D) : ∀ i, (Zj0 P i).length = P.length
 | 0 => rfl
 | i + 1 => by simp [Zj0, Zm9 P i]
def dsM (b : Bool) (ds : List D) : Blk := { cells := dsC ds, sz := 32, wr := true, fix := false, mv := b, pur := true }
set_option maxHeartbeats 4000000 in
theorem Zth (b : Bool) (P : List D) (c : Nat) (hn : P.length ≤ 1000000) :
  Z9 Tryd.prog G 67 [slv 0 0 P.length c] [dsM b P] (.tuple #[]) [dsM b (Zj0 P (P.length / 2))] := by
 refine Zbu (fn := Tryd.f67) (nt := 28) rfl rfl rfl rfl ?_
 repeat (first
  | ((with_reducible apply Zan); rfl; rfl; (exact (rfl : _ = Value.slice _ _ _)))
  | ((with_reducible apply Zak); rfl; rfl; (exact (rfl : _ = Value.int _ _)))
  | ((with_reducible apply Zj); rfl; rfl; (exact (rfl : _ = Value.int _ _)); (exact (rfl : _ = Value.int _ _)); (with_reducible exact Zdg rfl (by omega) (by omega)))
  | ((with_reducible apply Ze6); rfl; rfl; (exact (rfl : _ = Value.slice _ _ _)); (exact (rfl : _ = some (Value.int _ _))))
  | with_reducible refine Za ?_
  | with_reducible refine Zf ?_
  | with_reducible refine Ze ?_
  | with_reducible refine Z5 ?_
  | with_reducible refine Zc ?_)
 refine Zck (fun i : Nat => [slv 0 0 P.length c, dead, Iv (i : Nat), Iv ((P.length : Int) - 1 - i)]) (fun i => [dsM b (Zj0 P i)]) (fun i => i ≤ P.length / 2) (fun i => P.length - i) 0 (by omega) ?_ ?_
 ·refine Zam (n := 1) rfl ?_ rfl ?_
  ·refine ⟨.inr ⟨rfl, rfl⟩, .inl rfl, .inr ⟨rfl, rfl⟩, .inr ⟨?_, rfl⟩, trivial⟩
   show Value.int .i64 ((P.length : Int) - 1 - (0 : Nat)) = Value.int .i64 ((P.length : Int) - 1)
   congr 1; omega
  ·simp [dsM]
 ·intro i hi
  have hQl := Zm9 P i
  by_cases hlt : (i : Int) < (P.length : Int) - 1 - i
  ·have hQc : (dsM b (Zj0 P i)).cells.length = P.length * 32 := by show (dsC _).length = _; rw [Zb7, hQl]
   have hati := Zja (Zj0 P i) i (by omega)
   have hatj := Zja (Zj0 P i) (P.length - 1 - i) (by omega)
   generalize hQ : Zj0 P i = Q at hQl hQc hati hatj
   repeat (first
    | ((with_reducible apply Zal); rfl; rfl; exact (rfl : _ = Value.pointer (some ⟨_, _, _⟩)); first | exact Zcu (n := 32) rfl rfl (by omega) hati | exact Zcu (n := 32) rfl rfl (by omega) hatj)
    | ((with_reducible apply Za1); rfl; exact (rfl : _ = Value.pointer (some ⟨_, _, _⟩)); exact (rfl : _ = Value.agg _); (first
    | exact Zi3 (d := Q.getD (P.length - 1 - i) d0) (i := i) (Q := Q) rfl rfl rfl rfl (by omega) rfl
    | exact Zi3 (d := Q.getD i d0) (i := P.length - 1 - i) (Q := Q.set i (Q.getD (P.length - 1 - i) d0)) rfl rfl rfl rfl (by simp; omega) rfl); exact (rfl : _ = _ :: _))
    | ((with_reducible apply Zbs (j := i * 32)); rfl; rfl; exact (rfl : _ = Value.slice (some ⟨_, _, _⟩) _ _); (exact (rfl : _ = Value.int _ _)); (exact (rfl : _ = some (_, 32))); omega; omega; omega)
    | ((with_reducible apply Zbs (j := (P.length - 1 - i) * 32)); rfl; rfl; exact (rfl : _ = Value.slice (some ⟨_, _, _⟩) _ _); (exact (rfl : _ = Value.int _ _)); (exact (rfl : _ = some (_, 32))); omega; omega; omega)
    | ((with_reducible apply Zan); rfl; rfl; (first
    | exact (rfl : _ = Value.int _ _)
    | exact (rfl : _ = Value.slice _ _ _)))
    | ((with_reducible apply Zak); rfl; rfl; (exact (rfl : _ = Value.int _ _)))
    | ((with_reducible apply Zj); rfl; rfl; (exact (rfl : _ = Value.int _ _)); (exact (rfl : _ = Value.int _ _)); (first
    | with_reducible exact Zdd (by omega)
    | with_reducible exact Za0 rfl (by omega) (by omega)
    | with_reducible exact Zdg rfl (by omega) (by omega)))
    | with_reducible refine Za ?_
    | with_reducible refine Zf ?_
    | with_reducible refine Ze ?_
    | with_reducible refine Z5 ?_
    | with_reducible refine Z0 ?_
    | with_reducible refine Zc ?_
    | with_reducible refine Zz ?_
    | (with_reducible refine Zdq (by kernel_rfl) ?_)
    | (with_reducible refine Zer (by kernel_rfl) ?_)
    | ((with_reducible apply Zv); rfl))
   subst hQ
   refine Zas ⟨i + 1, by omega, by omega, ?_⟩
   refine Zam (n := 1) rfl ?_ rfl ?_
   ·refine ⟨.inr ⟨rfl, rfl⟩, .inl rfl, .inr ⟨rfl, rfl⟩, .inr ⟨?_, rfl⟩, trivial⟩
    show Value.int .i64 ((P.length : Int) - 1 - ((i + 1 : Nat) : Int)) = Value.int .i64 ((P.length : Int) - 1 - i - 1)
    congr 1; omega
   ·simp [dsM]
  ·have hie : i = P.length / 2 := by omega
   subst hie
   repeat (first
    | ((with_reducible apply Zan); rfl; rfl; (exact (rfl : _ = Value.int _ _)))
    | ((with_reducible apply Zj); rfl; rfl; (exact (rfl : _ = Value.int _ _)); (exact (rfl : _ = Value.int _ _)); (with_reducible exact Zcw (by omega)))
    | with_reducible refine Za ?_
    | with_reducible refine Zf ?_
    | with_reducible refine Ze ?_
    | with_reducible refine Zbn ?_
    | with_reducible refine Zc ?_
    | with_reducible refine Zat ?_
    | with_reducible refine Za3 ?_
    | ((with_reducible apply Zt); rfl)
    | ((with_reducible apply Zay); rfl))
   refine Zkr ?_
   refine Zm (v := .tuple #[]) rfl rfl rfl ?_ trivial
   simp [Zbe, dsM]
end Go.Flat
end
section
namespace Go.Flat
open Go.Proofs
variable {G : Glob}
def Zfr (kk : Nat → BitVec 32) (f : Nat) (l : List D) (i : Nat) (down : List D) : List D :=
  match f with
  | 0 => down
  | f + 1 => if l.length ≤ 1 then down else
      let k := (Zd2 l.length).toNat
      if i < k then Zfr kk f (l.take k) i (down ++ [Zcf kk (l.drop k)]) else Zfr kk f (l.drop k) (i - k) (down ++ [Zcf kk (l.take k)])
theorem Zfo {n : Nat} (h : 2 ≤ n) : 1 ≤ (Zd2 n).toNat ∧ (Zd2 n).toNat < n ∧ Zd2 n = ((Zd2 n).toNat : Int) := by
 unfold Zd2
 rw [if_neg (by omega)]
 have hb : ((n : Int) - 1).toNat = n - 1 := by omega
 rw [hb]
 have h0 : n - 1 ≠ 0 := by omega
 have e : Za4 (n - 1) - 1 = (n - 1).log2 := by unfold Za4; rw [if_neg h0]; rfl
 rw [e]
 have h1 := Nat.log2_self_le h0
 have h2 : (2 : Int) ^ (n - 1).log2 = ((2 ^ (n - 1).log2 : Nat) : Int) := by simp
 have h3 : 0 < 2 ^ (n - 1).log2 := Nat.pow_pos (by decide)
 rw [h2, Int.toNat_natCast]
 refine ⟨h3, by omega, rfl⟩
theorem Zit (ds : List D) : (([dsR ds] : List Blk).all (Zbe ([dsR ds] : List Blk).length)) = true := by simp [Zbe, dsR]
set_option maxHeartbeats 4000000 in
theorem Zqv (ds : List D) (c : Nat) (i : Int) (h : i < 0 ∨ (ds.length : Int) ≤ i) :
  Z9 Tryd.prog G 46 [slv 0 0 ds.length c, Iv i] [dsR ds] (.tuple #[Z2b, Iv 20]) [dsR ds] := by
 refine Zbu (fn := Tryd.f46) (nt := 51) rfl rfl rfl rfl ?_
 by_cases h1 : i < 0
 repeat (first
  | ((with_reducible apply Zan); rfl; rfl; (first
  | exact (rfl : _ = Value.int _ _)
  | exact (rfl : _ = Value.bool _)))
  | ((with_reducible apply Zak); rfl; rfl; (first
  | exact (rfl : _ = Value.int _ _)
  | exact (rfl : _ = Value.slice _ _ _)))
  | ((with_reducible apply Zj); rfl; rfl; (exact (rfl : _ = Value.int _ _)); (exact (rfl : _ = Value.int _ _)); (with_reducible exact Zdd (by omega)))
  | ((with_reducible apply Zgx); rfl; rfl; (exact (rfl : _ = some (Value.bool _))))
  | ((with_reducible apply Zlv); rfl; rfl)
  | with_reducible refine Za ?_
  | with_reducible refine Zf ?_
  | with_reducible refine Ze ?_
  | with_reducible refine Zs ?_
  | with_reducible refine Zc ?_
  | with_reducible refine Zaa ?_
  | ((with_reducible apply Zv); rfl))
 refine Zu ?_
 exact Zm (v := .tuple #[Z2b, Iv 20]) rfl rfl rfl (Zit ds) ⟨rfl, rfl, trivial⟩
 repeat (first
  | ((with_reducible apply Zan); rfl; rfl; (first
  | exact (rfl : _ = Value.int _ _)
  | exact (rfl : _ = Value.bool _)
  | exact (rfl : _ = Value.slice _ _ _)))
  | ((with_reducible apply Zak); rfl; rfl; (first
  | exact (rfl : _ = Value.int _ _)
  | exact (rfl : _ = Value.slice _ _ _)))
  | ((with_reducible apply Zj); rfl; rfl; (exact (rfl : _ = Value.int _ _)); (exact (rfl : _ = Value.int _ _)); (first
  | with_reducible exact Zcw (by omega)
  | with_reducible exact Zgy (by omega)))
  | ((with_reducible apply Zgx); rfl; rfl; (exact (rfl : _ = some (Value.bool _))))
  | ((with_reducible apply Ze6); rfl; rfl; (exact (rfl : _ = Value.slice _ _ _)); (exact (rfl : _ = some (Value.int _ _))))
  | with_reducible refine Za ?_
  | with_reducible refine Zf ?_
  | with_reducible refine Ze ?_
  | with_reducible refine Zs ?_
  | with_reducible refine Zc ?_
  | with_reducible refine Zaa ?_
  | ((with_reducible apply Zv); rfl))
 refine Zu ?_
 exact Zm (v := .tuple #[Z2b, Iv 20]) rfl rfl rfl (Zit ds) ⟨rfl, rfl, trivial⟩
end Go.Flat
end
section
namespace Go.Flat
open Go.Proofs
variable {G : Glob}
def sub (ds : List D) (o m : Nat) : List D := (ds.drop o).take m
theorem Zdr {ds : List D} {o m : Nat} (h : o + m ≤ ds.length) : (sub ds o m).length = m := by simp [sub]; omega
theorem Zvq {ds : List D} {o m k : Nat} (h : k ≤ m) : (sub ds o m).take k = sub ds o k := by simp [sub, List.take_take, Nat.min_eq_left h]
theorem Zvp {ds : List D} {o m k : Nat} : (sub ds o m).drop k = sub ds (o + k) (m - k) := by simp [sub, List.drop_take]
theorem Zso {ds : List D} {o m : Nat} (h : o + m ≤ ds.length) : ((dsC ds).drop (o * 32)).take (m * 32) = dsC (sub ds o m) := by
 have e : ds = ds.take o ++ ds.drop o := (List.take_append_drop o ds).symm
 have h1 := Zpm (ds.take o) (ds.drop o)
 rw [← e, show (ds.take o).length = o from by simp; omega] at h1
 rw [h1]
 have h2 := Zpn ((ds.drop o).take m) ((ds.drop o).drop m)
 rw [List.take_append_drop, show ((ds.drop o).take m).length = m from by simp; omega] at h2
 exact h2
theorem Z43 (ds : List D) : sub ds 0 ds.length = ds := by simp [sub]
structure IncS where
  o : Nat
  m : Nat
  cap : Nat
  i : Nat
  f : Nat
  down : List D
set_option maxHeartbeats 8000000 in
theorem Zr8 (kk : Nat → BitVec 32) (hG : G 0 = some (Z6 w32 64 kk)) (hG1 : G 2 = some (Z6 u8N 64 dbF)) (ds : List D) (c i : Nat) (hn : ds.length ≤ 1000000) (hc : ds.length ≤ c) (hi : i < ds.length) :
  let down := Zfr kk ds.length ds i []
  Z9 Tryd.prog G 46 [slv 0 0 ds.length c, Iv (i : Nat)] [dsR ds] (.tuple #[slv 1 0 down.length down.length, Iv 0]) [dsR ds, dsB (Zj0 down (down.length / 2))] := by
 intro down
 refine Zbu (fn := Tryd.f46) (nt := 51) rfl rfl rfl rfl ?_
 repeat (first
  | ((with_reducible apply Zan); rfl; rfl; (first
  | exact (rfl : _ = Value.int _ _)
  | exact (rfl : _ = Value.bool _)
  | exact (rfl : _ = Value.slice _ _ _)))
  | ((with_reducible apply Zak); rfl; rfl; (first
  | exact (rfl : _ = Value.int _ _)
  | exact (rfl : _ = Value.slice _ _ _)))
  | ((with_reducible apply Zj); rfl; rfl; (exact (rfl : _ = Value.int _ _)); (exact (rfl : _ = Value.int _ _)); (first
  | with_reducible exact Zcw (by omega)
  | with_reducible exact Zhi (by omega)))
  | ((with_reducible apply Zgx); rfl; rfl; (exact (rfl : _ = some (Value.bool _))))
  | ((with_reducible apply Ze6); rfl; rfl; (exact (rfl : _ = Value.slice _ _ _)); (exact (rfl : _ = some (Value.int _ _))))
  | with_reducible refine Za ?_
  | with_reducible refine Zf ?_
  | with_reducible refine Ze ?_
  | with_reducible refine Z5 ?_
  | with_reducible refine Z0 ?_
  | with_reducible refine Zc ?_
  | ((with_reducible apply Zt); rfl))
 refine Zb5 (Zbo.nilTmp (i := 6) (b := 1) true 32 rfl (by decide) rfl) ?_
 refine Zck (fun x : IncS => [slv 0 (x.o * 32) x.m x.cap, Iv (x.i : Nat), dead, dead, dead, dead, slv 1 0 x.down.length x.down.length]) (fun x => [dsR ds, dsB x.down])
  (fun x => x.o + x.m ≤ ds.length ∧ x.m ≤ x.cap ∧ x.i < x.m ∧ x.down.length + x.m ≤ ds.length ∧ x.m ≤ x.f + 1 ∧ Zfr kk x.f (sub ds x.o x.m) x.i x.down = down) (fun x => x.m) ⟨0, ds.length, c, i, ds.length, []⟩ ⟨by simp, hc, hi, by simp, by simp, by rw [Z43]⟩ ?_ ?_
 ·refine Zam (n := 2) rfl ?_ rfl ?_
  repeat (first | exact trivial | refine ⟨.inl rfl, ?_⟩ | refine ⟨.inr ⟨rfl, rfl⟩, ?_⟩)
  ·simp [dsR, dsB]
 ·rintro ⟨o, m, cap, i, f, dn⟩ ⟨h1, h2, h3, h4, h5, h6⟩
  dsimp only at h1 h2 h3 h4 h5 h6 ⊢
  have hDc : (dsB dn).cells.length = dn.length * 32 := Zb7 dn
  by_cases hm : 1 < m
  ·obtain ⟨s1, s2, s3⟩ := Zfo (n := m) (by omega)
   have hS := Zo9 (G := G) (m : Int) (by omega)
   rw [s3] at hS
   generalize hk : (Zd2 (m : Int)).toNat = k at hS s1 s2
   by_cases hik : i < k
   ·have hR := Zsd (G := G) kk hG hG1 (sub ds (o + k) (m - k)) (cap - k) (by rw [Zdr (by omega)]; omega) (by rw [Zdr (by omega)]; omega)
    rw [Zdr (by omega)] at hR
    have hE1 : (o + k) * 32 + (dsR (sub ds (o + k) (m - k))).cells.length ≤ (dsR ds).cells.length := by
     show _ + (dsC _).length ≤ (dsC _).length
     rw [Zb7, Zb7, Zdr (by omega)]; omega
    have hE2 : ((dsR ds).cells.drop ((o + k) * 32)).take (dsR (sub ds (o + k) (m - k))).cells.length = Zco [some (0, (o + k) * 32)] (dsR (sub ds (o + k) (m - k))) := by
     show ((dsC ds).drop ((o + k) * 32)).take (dsC (sub ds (o + k) (m - k))).length = dsC (sub ds (o + k) (m - k))
     rw [Zb7, Zdr (by omega)]
     exact Zso (by omega)
    have hcat : List.take (dn.length * 32) (List.drop 0 (dsC dn)) ++ Z6 w8 32 (Zcf kk (sub ds (o + k) (m - k))) = dsC (dn ++ [Zcf kk (sub ds (o + k) (m - k))]) := by
     rw [List.drop_zero, List.take_of_length_le (by rw [Zb7]; exact Nat.le_refl _), Zi9, Zhh]; simp [dsC]
    have hl1 : (dn ++ [Zcf kk (sub ds (o + k) (m - k))]).length = dn.length + 1 := by simp
    obtain ⟨f, rfl⟩ : ∃ f', f = f' + 1 := ⟨f - 1, by omega⟩
    refine Zaj 1 (H' := [dsR ds, dsB dn, hole]) rfl ?_
    repeat (first
     | ((with_reducible apply Zda); rfl; rfl; exact (rfl : _ = Value.slice (some ⟨_, _, _⟩) _ _); rfl; rfl; first | exact Zhp (h := k) rfl rfl rfl (by omega) rfl | exact Znc (l := k) (sz := 32) (j := (o + k) * 32) (m := m - k) (c' := cap - k) rfl rfl rfl rfl (by omega) (by omega) rfl (by omega) (by omega) (by omega))
     | ((with_reducible apply Zab (e := [some (0, (o + k) * 32)]) (nid := 0) hR); rfl; rfl; rfl; rfl; rfl; rfl; rfl; refine ⟨⟨⟨rfl, rfl, rfl, Nat.le_refl _, by omega⟩, trivial⟩, ⟨Zdh rfl rfl hE1 hE2, trivial⟩, rfl, rfl, rfl⟩; exact (rfl : _ = Value.agg _); exact (rfl : _ = _ :: _))
     | ((with_reducible apply Zel (nid := 2)); rfl; rfl; rfl; exact (rfl : _ = some (Value.slice _ _ _, _)); exact (rfl : _ = _ :: _))
     | ((with_reducible apply Zc9); rfl; rfl; rfl; exact .inl ⟨_, rfl⟩; exact (rfl : _ = Value.slice (some ⟨_, _, _⟩) _ _); exact (rfl : _ = Value.slice (some ⟨_, _, _⟩) _ _); exact Zeo (n' := (dn ++ [Zcf kk (sub ds (o + k) (m - k))]).length) (rfl : _ = some (32, _, 32)) (rfl : _ = some (1, _)) rfl rfl rfl rfl rfl (by rw [hDc]; omega) (by decide) hl1.symm (by omega); rfl; exact (rfl : _ = _ :: _))
     | ((with_reducible apply Zan); rfl; rfl; (first
     | exact (rfl : _ = Value.int _ _)
     | exact (rfl : _ = Value.slice _ _ _)))
     | ((with_reducible apply Zak); rfl; rfl; (first
     | exact (rfl : _ = Value.int _ _)
     | exact (rfl : _ = Value.slice _ _ _)))
     | ((with_reducible apply Zj); rfl; rfl; (exact (rfl : _ = Value.int _ _)); (exact (rfl : _ = Value.int _ _)); (first
     | with_reducible exact Zdd (by omega)
     | with_reducible exact Ze3 (by omega)))
     | ((with_reducible apply Ze6); rfl; rfl; (exact (rfl : _ = Value.slice _ _ _)); (exact (rfl : _ = some (Value.int _ _))))
     | ((with_reducible apply Zp (hS)); rfl; rfl; rfl; rfl; rfl; (exact (rfl : _ = Value.int _ _)))
     | with_reducible refine Za ?_
     | with_reducible refine Zf ?_
     | with_reducible refine Ze ?_
     | with_reducible refine Z5 ?_
     | with_reducible refine Z0 ?_
     | with_reducible refine Zc ?_
     | with_reducible refine Zz ?_
     | ((with_reducible apply Zv); rfl))
    refine Zas ⟨⟨o, k, cap, i, f, dn ++ [Zcf kk (sub ds (o + k) (m - k))]⟩, ⟨?_, ?_, ?_, ?_, ?_, ?_⟩, ?_, ?_⟩ <;> dsimp only
    ·omega
    ·omega
    ·omega
    ·rw [hl1]; omega
    ·omega
    ·rw [← h6]
     have hsl := Zdr (ds := ds) (o := o) (m := m) h1
     conv => rhs; unfold Zfr
     rw [if_neg (by omega)]
     simp only [hsl, hk]
     rw [if_pos hik, Zvq (by omega), Zvp]
    ·omega
    ·refine Zam (n := 2) rfl ?_ ?_ ?_
     ·refine ⟨.inr ⟨?_, rfl⟩, .inr ⟨?_, rfl⟩, .inl rfl, .inl rfl, .inl rfl, .inl rfl, .inr ⟨rfl, rfl⟩, trivial⟩
      ·rfl
      ·first | rfl | (show Value.int .i64 ((i - k : Nat) : Int) = Value.int .i64 ((i : Int) - k); congr 1; omega)
     ·exact congrArg (fun q => [dsR ds, ({ cells := q, sz := 32, wr := true, fix := false, mv := true, pur := true } : Blk)]) hcat
     ·simp [dsR, dsB]
   ·have hR := Zsd (G := G) kk hG hG1 (sub ds (o) (k)) (cap) (by rw [Zdr (by omega)]; omega) (by rw [Zdr (by omega)]; omega)
    rw [Zdr (by omega)] at hR
    have hE1 : (o) * 32 + (dsR (sub ds (o) (k))).cells.length ≤ (dsR ds).cells.length := by
     show _ + (dsC _).length ≤ (dsC _).length
     rw [Zb7, Zb7, Zdr (by omega)]; omega
    have hE2 : ((dsR ds).cells.drop ((o) * 32)).take (dsR (sub ds (o) (k))).cells.length = Zco [some (0, (o) * 32)] (dsR (sub ds (o) (k))) := by
     show ((dsC ds).drop ((o) * 32)).take (dsC (sub ds (o) (k))).length = dsC (sub ds (o) (k))
     rw [Zb7, Zdr (by omega)]
     exact Zso (by omega)
    have hcat : List.take (dn.length * 32) (List.drop 0 (dsC dn)) ++ Z6 w8 32 (Zcf kk (sub ds (o) (k))) = dsC (dn ++ [Zcf kk (sub ds (o) (k))]) := by
     rw [List.drop_zero, List.take_of_length_le (by rw [Zb7]; exact Nat.le_refl _), Zi9, Zhh]; simp [dsC]
    have hl1 : (dn ++ [Zcf kk (sub ds (o) (k))]).length = dn.length + 1 := by simp
    obtain ⟨f, rfl⟩ : ∃ f', f = f' + 1 := ⟨f - 1, by omega⟩
    refine Zaj 1 (H' := [dsR ds, dsB dn, hole]) rfl ?_
    repeat (first
     | ((with_reducible apply Zda); rfl; rfl; exact (rfl : _ = Value.slice (some ⟨_, _, _⟩) _ _); rfl; rfl; first | exact Zhp (h := k) rfl rfl rfl (by omega) rfl | exact Znc (l := k) (sz := 32) (j := (o + k) * 32) (m := m - k) (c' := cap - k) rfl rfl rfl rfl (by omega) (by omega) rfl (by omega) (by omega) (by omega))
     | ((with_reducible apply Zab (e := [some (0, (o) * 32)]) (nid := 0) hR); rfl; rfl; rfl; rfl; rfl; rfl; rfl; refine ⟨⟨⟨rfl, rfl, rfl, Nat.le_refl _, by omega⟩, trivial⟩, ⟨Zdh rfl rfl hE1 hE2, trivial⟩, rfl, rfl, rfl⟩; exact (rfl : _ = Value.agg _); exact (rfl : _ = _ :: _))
     | ((with_reducible apply Zel (nid := 2)); rfl; rfl; rfl; exact (rfl : _ = some (Value.slice _ _ _, _)); exact (rfl : _ = _ :: _))
     | ((with_reducible apply Zc9); rfl; rfl; rfl; exact .inl ⟨_, rfl⟩; exact (rfl : _ = Value.slice (some ⟨_, _, _⟩) _ _); exact (rfl : _ = Value.slice (some ⟨_, _, _⟩) _ _); exact Zeo (n' := (dn ++ [Zcf kk (sub ds (o) (k))]).length) (rfl : _ = some (32, _, 32)) (rfl : _ = some (1, _)) rfl rfl rfl rfl rfl (by rw [hDc]; omega) (by decide) hl1.symm (by omega); rfl; exact (rfl : _ = _ :: _))
     | ((with_reducible apply Zan); rfl; rfl; (first
     | exact (rfl : _ = Value.int _ _)
     | exact (rfl : _ = Value.slice _ _ _)))
     | ((with_reducible apply Zak); rfl; rfl; (first
     | exact (rfl : _ = Value.int _ _)
     | exact (rfl : _ = Value.slice _ _ _)))
     | ((with_reducible apply Zj); rfl; rfl; (exact (rfl : _ = Value.int _ _)); (exact (rfl : _ = Value.int _ _)); (first
     | with_reducible exact Zcw (by omega)
     | with_reducible exact Ze3 (by omega)
     | with_reducible exact Zdg rfl (by omega) (by omega)))
     | ((with_reducible apply Ze6); rfl; rfl; (exact (rfl : _ = Value.slice _ _ _)); (exact (rfl : _ = some (Value.int _ _))))
     | ((with_reducible apply Zp (hS)); rfl; rfl; rfl; rfl; rfl; (exact (rfl : _ = Value.int _ _)))
     | with_reducible refine Za ?_
     | with_reducible refine Zf ?_
     | with_reducible refine Ze ?_
     | with_reducible refine Z5 ?_
     | with_reducible refine Z0 ?_
     | with_reducible refine Zc ?_
     | with_reducible refine Zz ?_
     | ((with_reducible apply Zv); rfl)
     | ((with_reducible apply Zt); rfl))
    refine Zas ⟨⟨o + k, m - k, cap - k, i - k, f, dn ++ [Zcf kk (sub ds (o) (k))]⟩, ⟨?_, ?_, ?_, ?_, ?_, ?_⟩, ?_, ?_⟩ <;> dsimp only
    ·omega
    ·omega
    ·omega
    ·rw [hl1]; omega
    ·omega
    ·rw [← h6]
     have hsl := Zdr (ds := ds) (o := o) (m := m) h1
     conv => rhs; unfold Zfr
     rw [if_neg (by omega)]
     simp only [hsl, hk]
     rw [if_neg hik, Zvq (by omega), Zvp]
    ·omega
    ·refine Zam (n := 2) rfl ?_ ?_ ?_
     ·refine ⟨.inr ⟨?_, rfl⟩, .inr ⟨?_, rfl⟩, .inl rfl, .inl rfl, .inl rfl, .inl rfl, .inr ⟨rfl, rfl⟩, trivial⟩
      ·rfl
      ·first | rfl | (show Value.int .i64 ((i - k : Nat) : Int) = Value.int .i64 ((i : Int) - k); congr 1; omega)
     ·exact congrArg (fun q => [dsR ds, ({ cells := q, sz := 32, wr := true, fix := false, mv := true, pur := true } : Blk)]) hcat
     ·simp [dsR, dsB]
  ·have hm1 : m = 1 := by omega
   have hdn : down = dn := by
    rw [← h6]
    cases f with
    | zero => rfl
    | succ f => unfold Zfr; rw [if_pos (by rw [Zdr h1]; omega)]
   repeat (first
    | ((with_reducible apply Zab (e := [some (1, 0)]) (nid := 0) (Zth (G := G) false dn dn.length (by omega))); rfl; rfl; rfl; rfl; rfl; rfl; rfl; refine ⟨⟨⟨rfl, rfl, rfl, Nat.le_refl _, Nat.le_refl _⟩, trivial⟩, ⟨Zaw rfl rfl rfl rfl, trivial⟩, rfl, rfl, rfl⟩; exact (rfl : _ = Value.tuple _); exact (rfl : _ = _ :: _))
    | ((with_reducible apply Zan); rfl; rfl; (exact (rfl : _ = Value.slice _ _ _)))
    | ((with_reducible apply Zak); rfl; rfl; (first
    | exact (rfl : _ = Value.int _ _)
    | exact (rfl : _ = Value.slice _ _ _)))
    | ((with_reducible apply Zj); rfl; rfl; (exact (rfl : _ = Value.int _ _)); (exact (rfl : _ = Value.int _ _)); (with_reducible exact Ze2 (by omega)))
    | ((with_reducible apply Ze6); rfl; rfl; (exact (rfl : _ = Value.slice _ _ _)); (exact (rfl : _ = some (Value.int _ _))))
    | with_reducible refine Za ?_
    | with_reducible refine Zf ?_
    | with_reducible refine Ze ?_
    | with_reducible refine Zbn ?_
    | with_reducible refine Zs ?_
    | with_reducible refine Zc ?_
    | with_reducible refine Zat ?_
    | with_reducible refine Za3 ?_
    | ((with_reducible apply Zt); rfl)
    | ((with_reducible apply Zay); rfl))
   refine Zu ?_
   rw [hdn]
   refine Zm (v := .tuple #[slv 1 0 dn.length dn.length, Iv 0]) rfl rfl rfl ?_ ?_
   ·simp [Zbe, dsR, dsB]
   ·exact ⟨⟨rfl, Nat.zero_add _ ▸ rfl, rfl, Nat.le_refl _, Nat.le_refl _⟩, rfl, trivial⟩
end Go.Flat
end
section
namespace Go.Flat
open Go.Proofs
variable {G : Glob}
end Go.Flat
end
section
namespace Go.Flat
open Go.Proofs
variable {G : Glob}
def Zya (kk : Nat → BitVec 32) (f : Nat) (l : List D) (m : Nat) (kn : Bool) (down : List D) : List D :=
  match f with
  | 0 => if kn then down else down ++ [Zcf kk l]
  | f + 1 => if l.length ≤ m then (if kn then down else down ++ [Zcf kk l]) else
      let k := (Zd2 l.length).toNat
      if m ≤ k then Zya kk f (l.take k) m kn (down ++ [Zcf kk (l.drop k)]) else Zya kk f (l.drop k) (m - k) false (down ++ [Zcf kk (l.take k)])
structure ConS where
  o : Nat
  m : Nat
  cap : Nat
  i : Nat
  kn : Bool
  f : Nat
  down : List D
end Go.Flat
end
section
namespace Go.Flat
open Go.Proofs
variable {G : Glob}
end Go.Flat
end
section
namespace Go.Flat
open Go.Proofs
variable {G : Glob}
def dg1 (k : Nat) : D := fun i => if i = 0 then BitVec.ofNat 8 k else 0
theorem Zf8 (ds : List D) : ((dsC ds).drop 0).take (dsC ds).length = dsC ds := by simp
theorem Z52 {H : List Blk} {e : Emb} {id : Nat} {ds : List D} (hB : H[id]? = some (dsB ds)) : Zdp H e (some (id, 0)) (dsR ds) :=
 Zdh hB rfl (by show 0 + (dsC _).length ≤ (dsC _).length; omega) (Zf8 _)
theorem Zlz (n : Nat) (a : D) : Zcg n a a = true := by simp [Zcg]
end Go.Flat
end
