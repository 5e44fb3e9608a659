/- Walks. -/
import Derived.Test.YtfjkagjbanhdlaaDoorFlatC
import Derived.Test.YtfjkagjbanhdlaaDoorProg
set_option maxRecDepth 20000
set_option linter.unusedVariables false
set_option linter.unusedSimpArgs false
section
namespace Go.Flat
open Go.Proofs
variable {G : Glob}
def rot (x : BitVec 32) (n : Nat) : BitVec 32 := x <<< n ||| x >>> (32 - n)

theorem Z38 (k : Int) : (BitVec.ofInt 64 k &&& BitVec.ofInt 64 31).toNat = (k % 32).toNat := by
 have h31 : (BitVec.ofInt 64 31).toNat = 2 ^ 5 - 1 := rfl
 rw [BitVec.toNat_and, h31, Nat.and_two_pow_sub_one_eq_mod, BitVec.toNat_ofInt]
 omega
theorem Zx5 (x : BitVec 32) (k : Int) : Zae Tryd.prog G 74 [w32 x, Iv k] [] (w32 (rot x (k % 32).toNat)) [] := by
 refine Zbj (fn := Tryd.f74) (nt := 17) rfl rfl rfl rfl ?_
 repeat (first
  | ((with_reducible apply Ze); rfl; rfl; (exact (rfl : _ = Value.int _ _)))
  | ((with_reducible apply Zc); rfl; rfl; (exact (rfl : _ = Value.int _ _)))
  | ((with_reducible apply Zk); rfl; rfl; (exact (rfl : _ = Value.int _ _)); (exact (rfl : _ = Value.int _ _)); (first
  | with_reducible exact Z5y (by first | exact ofI _ _ | rfl) (by first | exact ofI _ _ | rfl)
  | with_reducible exact Z32 (by first | exact ofI _ _ | rfl) (by omega)
  | with_reducible exact Z1o (by omega)
  | with_reducible exact Z33 (by first | exact ofI _ _ | rfl) (by first | exact ofI _ _ | rfl)
  | with_reducible exact Z5z (by first | exact ofI _ _ | rfl) (by first | exact ofI _ _ | rfl)))
  | ((with_reducible apply Zdb); rfl; rfl; (exact (rfl : _ = Value.int _ _)); (exact Zsp rfl rfl (by first | exact Ze5 _ | rfl)))
  | with_reducible refine Za ?_
  | with_reducible refine Zg ?_
  | with_reducible refine Zf ?_
  | with_reducible refine Zt ?_
  | with_reducible refine Zb ?_)
 refine Zu ?_
 refine Zep (v := .int _ _) rfl rfl ?_
 have h2 : (BitVec.ofInt 64 32 - (BitVec.ofInt 64 k &&& BitVec.ofInt 64 31)).toNat = 32 - (k % 32).toNat := by
  have h3 := Z38 k
  have h32 : (BitVec.ofInt 64 32).toNat = 32 := rfl
  rw [BitVec.toNat_sub, h3, h32]
  omega
 simp only [Int.toNat_natCast, h2, Z38, rot]
def Zpt (x : BitVec 32) (a b : Int) (z : BitVec 32) : BitVec 32 := rot x ((0 - a) % 32).toNat ^^^ rot x ((0 - b) % 32).toNat ^^^ z
theorem Zma (x : BitVec 32) (a b : Int) (z : BitVec 32) (ha : 0 ≤ a ∧ a ≤ 32) (hb : 0 ≤ b ∧ b ≤ 32) : Zae Tryd.prog G 73 [w32 x, Iv a, Iv b, w32 z] [] (w32 (Zpt x a b z)) [] := by
 refine Zbj (fn := Tryd.f73) (nt := 20) rfl rfl rfl rfl ?_
 repeat (first
  | ((with_reducible apply Ze); rfl; rfl; (exact (rfl : _ = Value.int _ _)))
  | ((with_reducible apply Zc); rfl; rfl; (exact (rfl : _ = Value.int _ _)))
  | ((with_reducible apply Zk); rfl; rfl; (exact (rfl : _ = Value.int _ _)); (exact (rfl : _ = Value.int _ _)); (with_reducible exact Z3x (by first | exact ofI _ _ | rfl) (by first | exact ofI _ _ | rfl)))
  | ((with_reducible apply Zha); rfl; rfl; (exact (rfl : _ = Value.int _ _)); (exact Z42 rfl (by omega) (by omega)))
  | ((with_reducible apply Zq (Zx5 _ _)); rfl; rfl; rfl; rfl; rfl; (exact (rfl : _ = Value.int _ _)))
  | with_reducible refine Za ?_
  | with_reducible refine Zg ?_
  | with_reducible refine Zf ?_
  | with_reducible refine Zt ?_
  | with_reducible refine Zb ?_)
 refine Zu ?_
 exact Zep (v := .int _ _) rfl rfl rfl
end Go.Flat
end
section
namespace Go.Flat
open Go.Proofs
variable {G : Glob}
def inB (w : Nat → BitVec 32) (i : Nat) (x : BitVec 8) : Nat → BitVec 32 := Zhj w (i / 4) (w (i / 4) <<< 8 ||| x.setWidth 32)
def Zn6 (b : Nat → BitVec 8) : Nat → Nat → BitVec 32
  | 0 => fun _ => 0
  | i + 1 => inB (Zn6 b i) i (b i)
def Z5h (k : BitVec 32) (v w : Nat → BitVec 32) (t : Nat) : BitVec 32 := v 7 + Zpt (v 4) 6 11 (rot (v 4) ((-25 : Int) % 32).toNat) + (v 6 ^^^ (v 4 &&& (v 5 ^^^ v 6))) + k + w (t % 16)
def Z52 (v : Nat → BitVec 32) : BitVec 32 := Zpt (v 0) 2 13 (rot (v 0) ((-22 : Int) % 32).toNat) + ((v 0 &&& v 1) ^^^ (v 0 &&& v 2) ^^^ (v 1 &&& v 2))
def Z36 (p q : BitVec 32) (v : Nat → BitVec 32) : Nat → BitVec 32 := fun k => if k = 0 then p + q else if k = 4 then v 3 + p else v (k - 1)
def Z5o (w : Nat → BitVec 32) (t : Nat) : Nat → BitVec 32 := Zhj w (t % 16) (w (t % 16) + (w ((t + 9) % 16) + Zpt (w ((t + 1) % 16)) 7 18 (w ((t + 1) % 16) >>> 3) + Zpt (w ((t + 14) % 16)) 17 19 (w ((t + 14) % 16) >>> 10)))
def Zts (kk : Nat → BitVec 32) (v w : Nat → BitVec 32) : Nat → (Nat → BitVec 32) × (Nat → BitVec 32)
  | 0 => (v, w)
  | t + 1 => let p := Zts kk v w t; (Z36 (Z5h (kk t) p.1 p.2 t) (Z52 p.1) p.1, Z5o p.2 t)
def Zzz (v V : Nat → BitVec 32) : Nat → Nat → BitVec 32
  | 0 => v
  | i + 1 => Zhj (Zzz v V i) i (Zzz v V i i + V i)
def Z4p (kk : Nat → BitVec 32) (v : Nat → BitVec 32) (b : Nat → BitVec 8) : Nat → BitVec 32 := Zzz v (Zts kk v (Zn6 b 64) 64).1 8

abbrev pt (b o : Nat) : Value := .pointer (some ⟨b, o, none⟩)
abbrev sl (b o n c : Nat) : Value := .slice (some ⟨b, o, none⟩) n c
def stB (v : Nat → BitVec 32) (r n : Value) : Blk := { cells := Zac w32 8 v ++ [r, n], sz := 10, wr := true, fix := true, mv := false, pur := false }
def byB (n : Nat) (b : Nat → BitVec 8) : Blk := { cells := Zac w8 n b, sz := 1, wr := false, fix := false, mv := true, pur := true }
def wB (w : Nat → BitVec 32) : Blk := { cells := Zac w32 16 w, sz := 16, wr := true, fix := true, mv := false, pur := true }
def vB (v : Nat → BitVec 32) : Blk := { cells := Zac w32 8 v, sz := 8, wr := true, fix := true, mv := false, pur := true }

set_option maxHeartbeats 4000000 in
theorem Z05 (kk : Nat → BitVec 32) (hG : G 0 = some (Zac w32 64 kk)) (v : Nat → BitVec 32) (b : Nat → BitVec 8) (m c c' : Nat) (n : BitVec 64) :
  Zae Tryd.prog G 59 [pt 0 0, sl 1 0 64 c'] [stB v (sl 1 0 m c) (w64 n), byB 64 b] (.tuple #[]) [stB (Z4p kk v b) (sl 1 0 m c) (w64 n), byB 64 b] := by
 refine Zbj (fn := Tryd.f59) (nt := 156) rfl rfl rfl rfl ?_
 refine Zaj 2 (H' := [stB v (sl 1 0 m c) (w64 n), byB 64 b, hole, hole]) rfl ?_
 repeat (first
  | ((with_reducible apply Ze); rfl; rfl; (first
  | exact (rfl : _ = Value.int _ _)
  | exact (rfl : _ = Value.slice _ _ _)))
  | ((with_reducible apply Zbl); rfl; rfl; (exact (rfl : _ = Value.slice _ _ _)); (exact (rfl : _ = some (Value.int _ _))))
  | ((with_reducible apply Z7 (nid := 2)); rfl; rfl; rfl; exact (rfl : _ = _ :: _))
  | with_reducible refine Za ?_
  | with_reducible refine Zg ?_
  | with_reducible refine Zf ?_
  | with_reducible refine Z9 ?_
  | with_reducible refine Zb ?_)
 refine Zch (fun i => [pt 0 0, sl 1 0 64 c', dead, dead, pt 2 0] ++ List.replicate 13 dead ++ [sl 1 0 64 c', Iv 64, Iv (i : Nat)]) (fun i : Nat => [stB v (sl 1 0 m c) (w64 n), byB 64 b, wB (Zn6 b i), hole]) (fun i => i ≤ 64) (fun i => 64 - i) 0 (by omega) ?_ ?_
 ·refine Zal (n := 4) rfl ?_ rfl ?_
  repeat (first | exact trivial | refine ⟨.inl rfl, ?_⟩ | refine ⟨.inr ⟨rfl, rfl⟩, ?_⟩)
  ·rfl
 ·intro i hi
  by_cases hlt : i < 64
  repeat (first
   | ((with_reducible apply Zdw (j := i / 4)); rfl; rfl; exact (rfl : _ = Value.pointer (some ⟨_, _, _⟩)); (exact (rfl : _ = Value.int _ _)); (exact (rfl : _ = some (_, 1))); omega; omega; omega)
   | ((with_reducible apply Zbf (j := i)); rfl; rfl; exact (rfl : _ = Value.slice (some ⟨_, _, _⟩) _ _); (exact (rfl : _ = Value.int _ _)); (exact (rfl : _ = some (_, 1))); omega; omega; omega)
   | ((with_reducible apply Ze); rfl; rfl; (exact (rfl : _ = Value.int _ _)))
   | ((with_reducible apply Zc); rfl; rfl; (exact (rfl : _ = Value.int _ _)))
   | ((with_reducible apply Zk); rfl; rfl; (exact (rfl : _ = Value.int _ _)); (exact (rfl : _ = Value.int _ _)); (first
   | with_reducible exact Zcq (by omega)
   | with_reducible exact Zaz rfl (by omega) (by omega)
   | with_reducible exact Z5y (by first | exact ofI _ _ | rfl) (by first | exact ofI _ _ | rfl)
   | with_reducible exact Z32 (by first | exact ofI _ _ | rfl) (by omega)
   | with_reducible exact Z3z (by omega) (by omega) (by omega)))
   | ((with_reducible apply Zdb); rfl; rfl; (exact (rfl : _ = Value.int _ _)); (exact Z4w rfl rfl (by first | exact Ze5 _ | rfl)))
   | ((with_reducible apply Zl); rfl; rfl; exact (rfl : _ = Value.pointer (some ⟨_, _, _⟩)); (exact Zii rfl rfl rfl (by omega) (fun _ => rfl)))
   | ((with_reducible apply Zx); rfl; exact (rfl : _ = Value.pointer (some ⟨_, _, _⟩)); (exact (rfl : _ = Value.int _ _)); (exact Zg5 rfl rfl rfl rfl rfl (by omega) rfl rfl); exact (rfl : _ = _ :: _))
   | with_reducible refine Za ?_
   | with_reducible refine Zg ?_
   | with_reducible refine Zf ?_
   | with_reducible refine Z9 ?_
   | with_reducible refine Z2 ?_
   | with_reducible refine Zb ?_
   | with_reducible refine Zab ?_
   | ((with_reducible apply Zz); rfl))
  refine Zas ⟨i + 1, by omega, by omega, ?_⟩
  refine Zal (n := 4) rfl ?_ ?_ ?_ <;> try rfl
  repeat (first | exact trivial | refine ⟨.inl rfl, ?_⟩ | refine ⟨.inr ⟨rfl, rfl⟩, ?_⟩)
  ·obtain rfl : i = 64 := by omega
   repeat (first
    | ((with_reducible apply Zl); rfl; rfl; exact (rfl : _ = Value.pointer (some ⟨_, _, _⟩)); exact Zvj rfl hG rfl)
    | ((with_reducible apply Ze); rfl; rfl; (first
    | exact (rfl : _ = Value.int _ _)
    | exact (rfl : _ = Value.pointer (some _))))
    | ((with_reducible apply Zk); rfl; rfl; (exact (rfl : _ = Value.int _ _)); (exact (rfl : _ = Value.int _ _)); (with_reducible exact Zcj (by omega)))
    | ((with_reducible apply Zc0); rfl; rfl; exact (rfl : _ = Value.pointer (some ⟨_, _, _⟩)); (exact (rfl : _ = some (Value.pointer (some _)))))
    | ((with_reducible apply Zi); rfl; rfl; exact (rfl : _ = Value.pointer (some ⟨_, _, _⟩)); (exact (rfl : _ = some 0)); (exact Nat.zero_add _))
    | ((with_reducible apply Zl); rfl; rfl; exact (rfl : _ = Value.pointer (some ⟨_, _, _⟩)); (exact (rfl : _ = some (Value.agg _))))
    | ((with_reducible apply Zx); rfl; exact (rfl : _ = Value.pointer (some ⟨_, _, _⟩)); (exact (rfl : _ = Value.agg _)); (rfl); exact (rfl : _ = _ :: _))
    | ((with_reducible apply Z7 (nid := 3)); rfl; rfl; rfl; exact (rfl : _ = _ :: _))
    | with_reducible refine Za ?_
    | with_reducible refine Zg ?_
    | with_reducible refine Zf ?_
    | with_reducible refine Z9 ?_
    | with_reducible refine Zbh ?_
    | with_reducible refine Zb ?_
    | with_reducible refine Zar ?_
    | with_reducible refine Za0 ?_
    | ((with_reducible apply Zv); rfl)
    | ((with_reducible apply Zaw); rfl))
   refine Zch (fun x => [pt 0 0, dead, dead, dead, pt 2 0, dead, dead, pt 3 0] ++ List.replicate 33 dead ++ [.agg (Zac w32 64 kk).toArray, Iv (x : Nat)])
    (fun t : Nat => [stB v (sl 1 0 m c) (w64 n), byB 64 b, wB (Zts kk v (Zn6 b 64) t).2, vB (Zts kk v (Zn6 b 64) t).1]) (fun t => t ≤ 64) (fun t => 64 - t) 0 (by omega) ?_ ?_
   ·refine Zal (n := 4) rfl ?_ rfl rfl
    repeat (first | exact trivial | refine ⟨.inl rfl, ?_⟩ | refine ⟨.inr ⟨rfl, rfl⟩, ?_⟩)
   ·intro t ht
    by_cases hlt : t < 64
    ·generalize hv : (Zts kk v (Zn6 b 64) t).1 = vt
     generalize hw : (Zts kk v (Zn6 b 64) t).2 = wt
     repeat (first
      | ((with_reducible apply Zxm); rfl; rfl; (exact (rfl : _ = Value.agg _)); (exact (rfl : _ = Value.int _ _)); exact Zou (i := t) rfl rfl (by omega) (by omega) (by omega) (fun _ => rfl))
      | ((with_reducible apply Zdw (j := t % 16)); rfl; rfl; exact (rfl : _ = Value.pointer (some ⟨_, _, _⟩)); (exact (rfl : _ = Value.int _ _)); (exact (rfl : _ = some (_, 1))); omega; omega; omega)
      | ((with_reducible apply Zdw (j := (t + 1) % 16)); rfl; rfl; exact (rfl : _ = Value.pointer (some ⟨_, _, _⟩)); (exact (rfl : _ = Value.int _ _)); (exact (rfl : _ = some (_, 1))); omega; omega; omega)
      | ((with_reducible apply Zdw (j := (t + 14) % 16)); rfl; rfl; exact (rfl : _ = Value.pointer (some ⟨_, _, _⟩)); (exact (rfl : _ = Value.int _ _)); (exact (rfl : _ = some (_, 1))); omega; omega; omega)
      | ((with_reducible apply Zdw (j := (t + 9) % 16)); rfl; rfl; exact (rfl : _ = Value.pointer (some ⟨_, _, _⟩)); (exact (rfl : _ = Value.int _ _)); (exact (rfl : _ = some (_, 1))); omega; omega; omega)
      | ((with_reducible apply Zdw (j := 0)); rfl; rfl; exact (rfl : _ = Value.pointer (some ⟨_, _, _⟩)); (exact (rfl : _ = Value.int _ _)); (exact (rfl : _ = some (_, 1))); omega; omega; omega)
      | ((with_reducible apply Zdw (j := 1)); rfl; rfl; exact (rfl : _ = Value.pointer (some ⟨_, _, _⟩)); (exact (rfl : _ = Value.int _ _)); (exact (rfl : _ = some (_, 1))); omega; omega; omega)
      | ((with_reducible apply Zdw (j := 2)); rfl; rfl; exact (rfl : _ = Value.pointer (some ⟨_, _, _⟩)); (exact (rfl : _ = Value.int _ _)); (exact (rfl : _ = some (_, 1))); omega; omega; omega)
      | ((with_reducible apply Zdw (j := 4)); rfl; rfl; exact (rfl : _ = Value.pointer (some ⟨_, _, _⟩)); (exact (rfl : _ = Value.int _ _)); (exact (rfl : _ = some (_, 1))); omega; omega; omega)
      | ((with_reducible apply Zdw (j := 5)); rfl; rfl; exact (rfl : _ = Value.pointer (some ⟨_, _, _⟩)); (exact (rfl : _ = Value.int _ _)); (exact (rfl : _ = some (_, 1))); omega; omega; omega)
      | ((with_reducible apply Zdw (j := 6)); rfl; rfl; exact (rfl : _ = Value.pointer (some ⟨_, _, _⟩)); (exact (rfl : _ = Value.int _ _)); (exact (rfl : _ = some (_, 1))); omega; omega; omega)
      | ((with_reducible apply Zdw (j := 7)); rfl; rfl; exact (rfl : _ = Value.pointer (some ⟨_, _, _⟩)); (exact (rfl : _ = Value.int _ _)); (exact (rfl : _ = some (_, 1))); omega; omega; omega)
      | ((with_reducible apply Ze); rfl; rfl; (exact (rfl : _ = Value.int _ _)))
      | ((with_reducible apply Zc); rfl; rfl; (exact (rfl : _ = Value.int _ _)))
      | ((with_reducible apply Zk); rfl; rfl; (exact (rfl : _ = Value.int _ _)); (exact (rfl : _ = Value.int _ _)); (first
      | with_reducible exact Zcq (by omega)
      | with_reducible exact Zaz rfl (by omega) (by omega)
      | with_reducible exact Z37 (by first | exact ofI _ _ | rfl) (by first | exact ofI _ _ | rfl)
      | with_reducible exact Z5g (by first | exact ofI _ _ | rfl) (by first | exact ofI _ _ | rfl)
      | with_reducible exact Z1o (by omega)
      | with_reducible exact Z3x (by first | exact ofI _ _ | rfl) (by first | exact ofI _ _ | rfl)
      | with_reducible exact Z09 (by omega) (by omega)))
      | ((with_reducible apply Zdd); rfl; rfl; (exact (rfl : _ = Value.pointer (some _))); rfl; rfl; (exact (rfl : _ = some (Value.slice (some ⟨_, _, _⟩) _ _))))
      | ((with_reducible apply Z0x); rfl; rfl; (exact (rfl : _ = Value.slice _ _ _)); (exact (rfl : _ = Value.slice _ _ _)); exact (rfl : _ = some (Value.int _ _, _, _)); exact (rfl : _ = _ :: _))
      | ((with_reducible apply Zl); rfl; rfl; exact (rfl : _ = Value.pointer (some ⟨_, _, _⟩)); (first
      | exact Zii rfl rfl rfl (by omega) (fun _ => rfl)
      | exact (rfl : _ = some (Value.int _ _))))
      | ((with_reducible apply Zx); rfl; exact (rfl : _ = Value.pointer (some ⟨_, _, _⟩)); (exact (rfl : _ = Value.int _ _)); (first
      | exact Zg5 rfl rfl rfl rfl rfl (by omega) rfl rfl
      | rfl); exact (rfl : _ = _ :: _))
      | ((with_reducible apply Zq (Zx5 _ _)); rfl; rfl; rfl; rfl; rfl; (exact (rfl : _ = Value.int _ _)))
      | ((with_reducible apply Zq (Zma _ 6 11 _ (by decide) (by decide))); rfl; rfl; rfl; rfl; rfl; (exact (rfl : _ = Value.int _ _)))
      | ((with_reducible apply Zq (Zma _ 2 13 _ (by decide) (by decide))); rfl; rfl; rfl; rfl; rfl; (exact (rfl : _ = Value.int _ _)))
      | ((with_reducible apply Zq (Zma _ 7 18 _ (by decide) (by decide))); rfl; rfl; rfl; rfl; rfl; (exact (rfl : _ = Value.int _ _)))
      | ((with_reducible apply Zq (Zma _ 17 19 _ (by decide) (by decide))); rfl; rfl; rfl; rfl; rfl; (exact (rfl : _ = Value.int _ _)))
      | with_reducible refine Za ?_
      | with_reducible refine Zg ?_
      | with_reducible refine Zf ?_
      | with_reducible refine Z9 ?_
      | with_reducible refine Z2 ?_
      | with_reducible refine Zb ?_
      | with_reducible refine Zab ?_
      | (with_reducible refine Zcu (by kernel_rfl) ?_)
      | (with_reducible refine Zdu (by kernel_rfl) ?_)
      | ((with_reducible apply Zz); rfl))
     subst hv; subst hw
     refine Zas ⟨t + 1, by omega, by omega, ?_⟩
     refine Zal (n := 4) rfl ?_ ?_ ?_
     repeat (first | exact trivial | refine ⟨.inl rfl, ?_⟩ | refine ⟨.inr ⟨rfl, rfl⟩, ?_⟩)
     ·rfl
     ·rfl
    ·obtain rfl : t = 64 := by omega
     generalize hv : (Zts kk v (Zn6 b 64) 64).1 = vt
     generalize hw : (Zts kk v (Zn6 b 64) 64).2 = wt
     repeat (first
      | ((with_reducible apply Ze); rfl; rfl; (exact (rfl : _ = Value.int _ _)))
      | ((with_reducible apply Zk); rfl; rfl; (exact (rfl : _ = Value.int _ _)); (exact (rfl : _ = Value.int _ _)); (with_reducible exact Zcj (by omega)))
      | ((with_reducible apply Zl); rfl; rfl; exact (rfl : _ = Value.pointer (some ⟨_, _, _⟩)); (exact (rfl : _ = some (Value.agg _))))
      | with_reducible refine Za ?_
      | with_reducible refine Zg ?_
      | with_reducible refine Zf ?_
      | with_reducible refine Z9 ?_
      | with_reducible refine Zbh ?_
      | with_reducible refine Zb ?_
      | with_reducible refine Zar ?_
      | with_reducible refine Za0 ?_
      | ((with_reducible apply Zv); rfl)
      | ((with_reducible apply Zaw); rfl))
     refine Zch (fun x => [pt 0 0] ++ List.replicate 138 dead ++ [.agg (Zac w32 8 vt).toArray, Iv (x : Nat)])
      (fun x : Nat => [stB (Zzz v vt x) (sl 1 0 m c) (w64 n), byB 64 b]) (fun x => x ≤ 8) (fun x => 8 - x) 0 (by omega) ?_ ?_
     ·refine Zal (n := 2) rfl ?_ rfl rfl
      repeat (first | exact trivial | refine ⟨.inl rfl, ?_⟩ | refine ⟨.inr ⟨rfl, rfl⟩, ?_⟩)
     ·intro x hx
      by_cases hlt : x < 8
      repeat (first
       | ((with_reducible apply Zdw (j := x)); rfl; rfl; exact (rfl : _ = Value.pointer (some ⟨_, _, _⟩)); (exact (rfl : _ = Value.int _ _)); (exact (rfl : _ = some (_, 1))); omega; omega; omega)
       | ((with_reducible apply Zxm); rfl; rfl; (exact (rfl : _ = Value.agg _)); (exact (rfl : _ = Value.int _ _)); exact Zou (i := x) rfl rfl (by omega) (by omega) (by omega) (fun _ => rfl))
       | ((with_reducible apply Ze); rfl; rfl; (first
       | exact (rfl : _ = Value.int _ _)
       | exact (rfl : _ = Value.pointer (some _))))
       | ((with_reducible apply Zc); rfl; rfl; (exact (rfl : _ = Value.int _ _)))
       | ((with_reducible apply Zk); rfl; rfl; (exact (rfl : _ = Value.int _ _)); (exact (rfl : _ = Value.int _ _)); (first
       | with_reducible exact Zcq (by omega)
       | with_reducible exact Zaz rfl (by omega) (by omega)
       | with_reducible exact Z37 (by first | exact ofI _ _ | rfl) (by first | exact ofI _ _ | rfl)))
       | ((with_reducible apply Zc0); rfl; rfl; exact (rfl : _ = Value.pointer (some ⟨_, _, _⟩)); (exact (rfl : _ = some (Value.pointer (some _)))))
       | ((with_reducible apply Zi); rfl; rfl; exact (rfl : _ = Value.pointer (some ⟨_, _, _⟩)); (exact (rfl : _ = some 0)); (exact Nat.zero_add _))
       | ((with_reducible apply Zl); rfl; rfl; exact (rfl : _ = Value.pointer (some ⟨_, _, _⟩)); (exact Zo3 rfl rfl rfl (by omega) (fun _ => rfl)))
       | ((with_reducible apply Zx); rfl; exact (rfl : _ = Value.pointer (some ⟨_, _, _⟩)); (exact (rfl : _ = Value.int _ _)); (exact Zu1 rfl rfl rfl rfl rfl (by omega) rfl rfl); exact (rfl : _ = _ :: _))
       | with_reducible refine Za ?_
       | with_reducible refine Zg ?_
       | with_reducible refine Zf ?_
       | with_reducible refine Z9 ?_
       | with_reducible refine Z2 ?_
       | with_reducible refine Zb ?_
       | with_reducible refine Zab ?_
       | (with_reducible refine Zcu (by kernel_rfl) ?_)
       | (with_reducible refine Zdu (by kernel_rfl) ?_)
       | ((with_reducible apply Zz); rfl))
      refine Zas ⟨x + 1, by omega, by omega, ?_⟩
      refine Zal (n := 2) rfl ?_ rfl rfl
      repeat (first | exact trivial | refine ⟨.inl rfl, ?_⟩ | refine ⟨.inr ⟨rfl, rfl⟩, ?_⟩)
      ·obtain rfl : x = 8 := by omega
       repeat (first
        | ((with_reducible apply Zk); rfl; rfl; (exact (rfl : _ = Value.int _ _)); (exact (rfl : _ = Value.int _ _)); (with_reducible exact Zcj (by omega)))
        | with_reducible refine Za ?_
        | with_reducible refine Zg ?_
        | with_reducible refine Zf ?_
        | with_reducible refine Zbh ?_
        | with_reducible refine Zb ?_
        | with_reducible refine Zar ?_
        | with_reducible refine Za0 ?_
        | ((with_reducible apply Zv); rfl)
        | ((with_reducible apply Zaw); rfl))
       refine Zj0 ?_
       refine Zm (v := .tuple #[]) rfl ?_ rfl ?_ ?_
       ·subst hv; rfl
       ·rfl
       ·exact trivial
end Go.Flat
end
section
namespace Go.Flat
open Go.Proofs
variable {G : Glob}
abbrev Bs := List (BitVec 8)
def bl (s : ByteArray) : Bs := s.data.toList.map UInt8.toBitVec
theorem Znj (s : ByteArray) : Ze0 s = (bl s).map w8 := by
 unfold Ze0 bl
 rw [List.map_map]; rfl
theorem Zla (s : ByteArray) : (bl s).length = s.size := by simp [bl]
def Zaq (l : Bs) : Blk := { cells := l.map w8, sz := 1, wr := true, fix := false, mv := true, pur := true }
def Zig (l : Bs) (j : Nat) : Nat → BitVec 8 := fun i => l.getD (64 * j + i) 0
def Zm4 (kk v : Nat → BitVec 32) (l : Bs) : Nat → Nat → BitVec 32
  | 0 => v
  | j + 1 => Z4p kk (Zm4 kk v l j) (Zig l j)
theorem Z4i {l : Bs} {j : Nat} (h : 64 * j + 64 ≤ l.length) : ((l.map w8).drop (64 * j)).take 64 = Zac w8 64 (Zig l j) := by
 apply List.ext_getElem?
 intro i
 rcases Nat.lt_or_ge i 64 with hi | hi
 ·rw [Zc8 hi, List.getElem?_take, if_pos hi, List.getElem?_drop, List.getElem?_map]
  have : 64 * j + i < l.length := by omega
  simp [Zig, this]
 ·rw [List.getElem?_eq_none (by simp; omega), List.getElem?_eq_none (by rw [Zbs]; omega)]

theorem Zu4 (s : ByteArray) : (Ze0 s).all Zbk = true := by rw [Znj]; simp only [List.all_map, List.all_eq_true]; intros; rfl
theorem Zza (l : Bs) : (l.map w8).all Zbk = true := by simp only [List.all_map, List.all_eq_true]; intros; rfl
set_option maxHeartbeats 4000000 in
theorem Z2b (kk : Nat → BitVec 32) (hG : G 0 = some (Zac w32 64 kk)) (v : Nat → BitVec 32) (pre rest full : Bs) (s : ByteArray) (n : BitVec 64) (hf : full = rest ++ bl s) (hs : full.length ≤ 140737488355328) :
  Zae Tryd.prog G 38 [pt 0 0, .string s] [stB v (slv 1 pre.length rest.length rest.length) (w64 n), Zaq (pre ++ rest)] (.tuple #[])
   [stB (Zm4 kk v full (full.length / 64)) (slv 1 (64 * (full.length / 64)) (full.length - 64 * (full.length / 64)) (full.length - 64 * (full.length / 64))) (w64 (n + BitVec.ofInt 64 s.size)), Zaq full] := by
 have hlen : full.length = rest.length + s.size := by rw [hf]; simp [Zla]
 refine Zbj (fn := Tryd.f38) (nt := 44) rfl rfl rfl rfl ?_
 have hcat : (((pre ++ rest).map w8).drop pre.length).take (rest.length * 1) ++ Ze0 s = full.map w8 := by
  rw [Nat.mul_one, List.map_append, List.drop_append_of_le_length (by simp), Znj, hf, List.map_append]
  have : List.drop pre.length (List.map w8 pre) = [] := by simp
  rw [this, List.nil_append, List.take_of_length_le (by simp)]
 repeat (first
  | ((with_reducible apply Zcv); rfl; rfl; rfl; exact .inr rfl; exact (rfl : _ = Value.slice (some ⟨_, _, _⟩) _ _); exact (rfl : _ = Value.string _); exact Zen (n' := full.length) (rfl : _ = some (1, _, 1)) rfl rfl rfl rfl rfl (Zu4 s) (by simp [Zaq]) (by decide) hlen.symm (by omega); rfl; exact (rfl : _ = _ :: _))
  | ((with_reducible apply Ze); rfl; rfl; (first
  | exact (rfl : _ = Value.pointer (some _))
  | exact (rfl : _ = Value.string _)))
  | ((with_reducible apply Zk); rfl; rfl; (exact (rfl : _ = Value.int _ _)); (exact (rfl : _ = Value.int _ _)); (with_reducible exact Z5f (by first | exact ofI _ _ | rfl) (by first | exact ofI _ _ | rfl)))
  | ((with_reducible apply Zdb); rfl; rfl; (exact (rfl : _ = Value.int _ _)); (exact Zsp rfl rfl (by first | exact Ze5 _ | rfl)))
  | ((with_reducible apply Zc0); rfl; rfl; exact (rfl : _ = Value.pointer (some ⟨_, _, _⟩)); (exact (rfl : _ = some (Value.pointer (some _)))))
  | ((with_reducible apply Zi); rfl; rfl; exact (rfl : _ = Value.pointer (some ⟨_, _, _⟩)); (first
  | exact (rfl : _ = some 8)
  | exact (rfl : _ = some 9)); (exact Nat.zero_add _))
  | ((with_reducible apply Zl); rfl; rfl; exact (rfl : _ = Value.pointer (some ⟨_, _, _⟩)); (first
  | exact (rfl : _ = some (Value.int _ _))
  | exact (rfl : _ = some (Value.slice _ _ _))))
  | ((with_reducible apply Zbl); rfl; rfl; (exact (rfl : _ = Value.string _)); (exact (rfl : _ = some (Value.int _ _))))
  | ((with_reducible apply Zx); rfl; exact (rfl : _ = Value.pointer (some ⟨_, _, _⟩)); (first
  | exact (rfl : _ = Value.int _ _)
  | exact (rfl : _ = Value.slice _ _ _)); (rfl); exact (rfl : _ = _ :: _))
  | with_reducible refine Za ?_
  | with_reducible refine Zg ?_
  | with_reducible refine Zf ?_
  | with_reducible refine Z9 ?_
  | with_reducible refine Zb ?_)
 refine Zch (fun x => [pt 0 0])
  (fun j : Nat => [stB (Zm4 kk v full j) (slv 1 (64 * j) (full.length - 64 * j) (full.length - 64 * j)) (w64 (n + BitVec.ofInt 64 s.size)), Zaq full]) (fun j => 64 * j ≤ full.length) (fun j => full.length - 64 * j) 0 (by omega) ?_ ?_
 ·refine Zal (n := 2) rfl ?_ ?_ rfl
  repeat (first | exact trivial | refine ⟨.inl rfl, ?_⟩ | refine ⟨.inr ⟨rfl, rfl⟩, ?_⟩)
  ·exact congrArg (fun c => [stB v (slv 1 0 full.length full.length) (w64 (n + BitVec.ofInt 64 s.size)), ({ cells := c, sz := 1, wr := true, fix := false, mv := true, pur := true } : Blk)]) hcat
 ·intro j hj
  by_cases hlt : 64 * j + 64 ≤ full.length
  repeat (first
   | ((with_reducible apply Zdd); rfl; rfl; exact (rfl : _ = Value.slice (some ⟨_, _, _⟩) _ _); rfl; rfl; first | exact Zie (h := 64) rfl rfl rfl (by omega) rfl | exact Zpg (l := 64) (sz := 1) (j := 64 * (j + 1)) (m := full.length - 64 * (j + 1)) (c' := full.length - 64 * (j + 1)) rfl rfl rfl rfl (by omega) (by omega) rfl (by omega) (by omega) (by omega))
   | ((with_reducible apply Z4 (e := [some (0, 0), some (1, 64 * j)]) (nid := 0) (Z05 kk hG (Zm4 kk v full j) (Zig full j) (full.length - 64 * j) (full.length - 64 * j) 64 (n + BitVec.ofInt 64 s.size))); rfl; rfl; rfl; rfl; rfl; rfl; rfl; exact ⟨⟨⟨rfl, rfl⟩, ⟨rfl, rfl, rfl, by omega, by omega⟩, trivial⟩, ⟨Zau rfl rfl rfl rfl, Zcg rfl rfl (by (show 64 * j + (Zac w8 64 _).length ≤ (List.map w8 full).length; rw [Zbs, List.length_map]; exact hlt)) (Z4i hlt), trivial⟩, rfl, rfl, rfl⟩; exact (rfl : _ = Value.tuple _); exact (rfl : _ = _ :: _))
   | ((with_reducible apply Ze); rfl; rfl; (exact (rfl : _ = Value.pointer (some _))))
   | ((with_reducible apply Zk); rfl; rfl; (exact (rfl : _ = Value.int _ _)); (exact (rfl : _ = Value.int _ _)); (with_reducible exact Zgm (by omega)))
   | ((with_reducible apply Zc0); rfl; rfl; exact (rfl : _ = Value.pointer (some ⟨_, _, _⟩)); (exact (rfl : _ = some (Value.pointer (some _)))))
   | ((with_reducible apply Zi); rfl; rfl; exact (rfl : _ = Value.pointer (some ⟨_, _, _⟩)); (exact (rfl : _ = some 8)); (exact Nat.zero_add _))
   | ((with_reducible apply Zl); rfl; rfl; exact (rfl : _ = Value.pointer (some ⟨_, _, _⟩)); (exact (rfl : _ = some (Value.slice _ _ _))))
   | ((with_reducible apply Zbl); rfl; rfl; (exact (rfl : _ = Value.slice _ _ _)); (exact (rfl : _ = some (Value.int _ _))))
   | ((with_reducible apply Zx); rfl; exact (rfl : _ = Value.pointer (some ⟨_, _, _⟩)); (exact (rfl : _ = Value.slice _ _ _)); (rfl); exact (rfl : _ = _ :: _))
   | with_reducible refine Za ?_
   | with_reducible refine Zg ?_
   | with_reducible refine Zf ?_
   | with_reducible refine Z9 ?_
   | with_reducible refine Z2 ?_
   | with_reducible refine Zb ?_
   | with_reducible refine Zab ?_
   | ((with_reducible apply Zz); rfl))
  refine Zas ⟨j + 1, by omega, by omega, ?_⟩
  refine Zal (n := 2) rfl ?_ ?_ rfl
  repeat (first | exact trivial | refine ⟨.inl rfl, ?_⟩ | refine ⟨.inr ⟨rfl, rfl⟩, ?_⟩)
  ·rfl
  ·have hj2 : j = full.length / 64 := by omega
   subst hj2
   repeat (first
    | ((with_reducible apply Ze); rfl; rfl; (exact (rfl : _ = Value.pointer (some _))))
    | ((with_reducible apply Zk); rfl; rfl; (exact (rfl : _ = Value.int _ _)); (exact (rfl : _ = Value.int _ _)); (with_reducible exact Zgl (by omega)))
    | ((with_reducible apply Zc0); rfl; rfl; exact (rfl : _ = Value.pointer (some ⟨_, _, _⟩)); (exact (rfl : _ = some (Value.pointer (some _)))))
    | ((with_reducible apply Zi); rfl; rfl; exact (rfl : _ = Value.pointer (some ⟨_, _, _⟩)); (exact (rfl : _ = some 8)); (exact Nat.zero_add _))
    | ((with_reducible apply Zl); rfl; rfl; exact (rfl : _ = Value.pointer (some ⟨_, _, _⟩)); (exact (rfl : _ = some (Value.slice _ _ _))))
    | ((with_reducible apply Zbl); rfl; rfl; (exact (rfl : _ = Value.slice _ _ _)); (exact (rfl : _ = some (Value.int _ _))))
    | with_reducible refine Za ?_
    | with_reducible refine Zg ?_
    | with_reducible refine Zf ?_
    | with_reducible refine Zbh ?_
    | with_reducible refine Zb ?_
    | with_reducible refine Zar ?_
    | with_reducible refine Za0 ?_
    | ((with_reducible apply Zv); rfl)
    | ((with_reducible apply Zaw); rfl))
   refine Zj0 ?_
   refine Zm (v := .tuple #[]) rfl ?_ rfl ?_ ?_
   ·rfl
   ·rfl
   ·exact trivial
end Go.Flat
end
section
namespace Go.Flat
open Go.Proofs
variable {G : Glob}
def Zze : Nat → BitVec 32
  | 0 => 0x6a09e667 | 1 => 0xbb67ae85 | 2 => 0x3c6ef372 | 3 => 0xa54ff53a | 4 => 0x510e527f | 5 => 0x9b05688c | 6 => 0x1f83d9ab | _ => 0x5be0cd19
abbrev Zz3 : Value := .slice none 0 0
def Z3t (v : Nat → BitVec 32) (r n : Value) : List Value := Zac w32 8 v ++ [r, n]
theorem Z12 : Zae Tryd.prog G 37 [] [] (.agg (Z3t Zze Zz3 (w64 0)).toArray) [] := by
 refine Zbj (fn := Tryd.f37) (nt := 3) rfl rfl rfl rfl ?_
 refine Zaj 1 (H' := [hole]) rfl ?_
 repeat (first
  | ((with_reducible apply Zbn); rfl; rfl; rfl; exact (rfl : _ = some (Value.agg _)))
  | ((with_reducible apply Zx); rfl; exact (rfl : _ = Value.pointer (some ⟨_, _, _⟩)); (exact (rfl : _ = Value.agg _)); (rfl); exact (rfl : _ = _ :: _))
  | ((with_reducible apply Z7 (nid := 0)); rfl; rfl; rfl; exact (rfl : _ = _ :: _))
  | with_reducible refine Za ?_
  | with_reducible refine Zg ?_
  | with_reducible refine Zf ?_
  | with_reducible refine Zt ?_
  | with_reducible refine Zb ?_)
 refine Zu ?_
 refine Zep (v := .agg _) rfl rfl ?_
 rfl
def tl (M : Bs) : Bs := M.drop (64 * (M.length / 64))
def Zn7 (kk : Nat → BitVec 32) (M : Bs) : Nat → BitVec 32 := Zm4 kk Zze M (M.length / 64)
def Zft (M : Bs) (s : ByteArray) : Bs := (tl M ++ bl s).take (64 * ((tl M ++ bl s).length / 64))
def stM (kk : Nat → BitVec 32) (M pre : Bs) (r : Nat) : Blk := stB (Zn7 kk M) (slv r pre.length (tl M).length (tl M).length) (w64 (BitVec.ofNat 64 M.length))
theorem Zwa (M : Bs) : (tl M).length = M.length - 64 * (M.length / 64) := by simp [tl]
theorem Zyg (M N : Bs) (j : Nat) : Zig (tl M ++ N) j = Zig (M ++ N) (M.length / 64 + j) := by
 have hk : 64 * (M.length / 64) ≤ M.length := by omega
 have : tl M ++ N = (M ++ N).drop (64 * (M.length / 64)) := by unfold tl; rw [List.drop_append_of_le_length hk]
 funext i
 unfold Zig
 rw [this]
 simp only [List.getD_eq_getElem?_getD, List.getElem?_drop]
 congr 2
 omega
theorem Zun (kk : Nat → BitVec 32) (M N : Bs) : ∀ j, Zm4 kk (Zn7 kk M) (tl M ++ N) j = Zm4 kk Zze (M ++ N) (M.length / 64 + j)
 | 0 => by
  simp only [Zm4, Nat.add_zero]
  unfold Zn7
  have : ∀ k, 64 * k ≤ M.length → Zm4 kk Zze M k = Zm4 kk Zze (M ++ N) k := by
   intro k
   induction k with
   | zero => intros; rfl
   | succ k ih =>
    intro h
    simp only [Zm4]
    rw [ih (by omega)]
    have hb : ∀ i, i < 64 → Zig M k i = Zig (M ++ N) k i := by
     intro i hi
     unfold Zig
     simp only [List.getD_eq_getElem?_getD]
     rw [List.getElem?_append_left (by omega)]
    have hin : ∀ t, t ≤ 64 → Zn6 (Zig M k) t = Zn6 (Zig (M ++ N) k) t := by
     intro t
     induction t with
     | zero => intros; rfl
     | succ t ih2 => intro ht; simp only [Zn6]; rw [ih2 (by omega), hb t (by omega)]
    unfold Z4p
    rw [hin 64 (by omega)]
  exact this _ (by omega)
 | j + 1 => by
  have e : M.length / 64 + (j + 1) = (M.length / 64 + j) + 1 := by omega
  rw [e]
  simp only [Zm4]
  rw [Zun kk M N j, Zyg]
theorem Zuj (kk : Nat → BitVec 32) (hG : G 0 = some (Zac w32 64 kk)) (M pre : Bs) (s : ByteArray) (hs : (tl M).length + s.size ≤ 140737488355328) :
  Zae Tryd.prog G 38 [pt 0 0, .string s] [stM kk M pre 1, Zaq (pre ++ tl M)] (.tuple #[]) [stM kk (M ++ bl s) (Zft M s) 1, Zaq (Zft M s ++ tl (M ++ bl s))] := by
 have h := Z2b (G := G) kk hG (Zn7 kk M) pre (tl M) (tl M ++ bl s) s (BitVec.ofNat 64 M.length) rfl (by simp [Zla]; omega)
 have hk : 64 * (M.length / 64) ≤ M.length := by omega
 have hl : (tl M ++ bl s).length = M.length - 64 * (M.length / 64) + s.size := by simp [Zwa, Zla]
 have hL : (M ++ bl s).length = M.length + s.size := by simp [Zla]
 have hq : (M ++ bl s).length / 64 = M.length / 64 + (tl M ++ bl s).length / 64 := by rw [hl, hL]; omega
 have hd : tl (M ++ bl s) = (tl M ++ bl s).drop (64 * ((tl M ++ bl s).length / 64)) := by
  have e1 : tl M ++ bl s = (M ++ bl s).drop (64 * (M.length / 64)) := by unfold tl; rw [List.drop_append_of_le_length hk]
  rw [e1, List.drop_drop, ← e1]
  unfold tl
  congr 1
  rw [hq]; unfold tl; omega
 have hp : (Zft M s).length = 64 * ((tl M ++ bl s).length / 64) := by unfold Zft; rw [List.length_take]; omega
 have e1 : Zm4 kk (Zn7 kk M) (tl M ++ bl s) ((tl M ++ bl s).length / 64) = Zn7 kk (M ++ bl s) := by rw [Zun]; unfold Zn7; rw [hq]
 have e2 : Zft M s ++ tl (M ++ bl s) = tl M ++ bl s := by rw [hd]; exact List.take_append_drop _ _
 have e3 : (tl (M ++ bl s)).length = (tl M ++ bl s).length - 64 * ((tl M ++ bl s).length / 64) := by rw [hd, List.length_drop]
 have e4 : BitVec.ofNat 64 M.length + BitVec.ofInt 64 s.size = BitVec.ofNat 64 (M ++ bl s).length := by rw [hL, BitVec.ofInt_natCast, BitVec.ofNat_add]
 rw [e1, e4, ← e3, ← hp, ← e2] at h
 exact h
end Go.Flat
end
section
namespace Go.Flat
open Go.Proofs
variable {G : Glob}
def Zjo (ps : List ByteArray) : Blk := { cells := ps.map Value.string, sz := 1, wr := false, fix := false, mv := true, pur := true }
def dgB (d : Nat → BitVec 8) : Blk := { cells := Zac w8 32 d, sz := 32, wr := true, fix := true, mv := false, pur := true }
def Zbg (ps : List ByteArray) : Bs := (ps.map bl).flatten
def Z0d (n : BitVec 64) (i : Nat) : BitVec 8 := (n >>> (56 - 8 * (i : Int)).toNat).setWidth 8
def Z50 (r : Nat) : Bs := (128 : BitVec 8) :: List.replicate ((119 - r) % 64) 0
def Zzt (r : Nat) (n : BitVec 64) : Nat → Bs
  | 0 => Z50 r
  | i + 1 => Zzt r n i ++ [Z0d n i]
def Z6q (v : Nat → BitVec 32) (i : Nat) : BitVec 8 := (v (i / 4) >>> (24 - (i : Int) % 4 * 8).toNat).setWidth 8
def Ztb (v : Nat → BitVec 32) : Nat → Nat → BitVec 8
  | 0 => fun _ => 0
  | i + 1 => Zhj (Ztb v i) i (Z6q v i)
def Z20 (M : Bs) : BitVec 64 := BitVec.ofNat 64 M.length * BitVec.ofInt 64 8
def Zfo (M : Bs) (i : Nat) : Bs := Zzt (tl M).length (Z20 M) i
def Zbi (kk : Nat → BitVec 32) (M : Bs) : Nat → BitVec 8 := Ztb (Zn7 kk (M ++ Zfo M 8)) 32
theorem Zty (r : Nat) (n : BitVec 64) : ∀ i, (Zzt r n i).length = 1 + (119 - r) % 64 + i
 | 0 => by simp [Zzt, Z50]; omega
 | i + 1 => by simp [Zzt, Zty r n i]; omega
def Zn (l : Bs) : ByteArray := ⟨(l.map UInt8.ofBitVec).toArray⟩
theorem Zov (l : Bs) : bl (Zn l) = l := by
 unfold bl Zn
 simp only [List.map_map]
 have : (UInt8.toBitVec ∘ UInt8.ofBitVec) = (id : BitVec 8 → BitVec 8) := rfl
 rw [this, List.map_id]
theorem Zay (l : Bs) : (Zn l).size = l.length := by rw [← Zla, Zov]

set_option maxHeartbeats 4000000 in
theorem Zru (kk : Nat → BitVec 32) (hG : G 0 = some (Zac w32 64 kk)) (ps : List ByteArray) (c : Nat) (hn : ps.length ≤ 1000000) (hs : ∀ s, s ∈ ps → s.size ≤ 70368744177664) :
  Zae Tryd.prog G 20 [slv 0 0 ps.length c] [Zjo ps] (.agg (Zac w8 32 (Zbi kk (Zbg ps))).toArray) [Zjo ps] := by
 refine Zbj (fn := Tryd.f20) (nt := 67) rfl rfl rfl rfl ?_
 refine Zaj 6 (H' := [Zjo ps, hole, hole, hole, hole, hole, hole]) rfl ?_
 repeat (first
  | ((with_reducible apply Ze); rfl; rfl; (first
  | exact (rfl : _ = Value.int _ _)
  | exact (rfl : _ = Value.slice _ _ _)))
  | ((with_reducible apply Zbl); rfl; rfl; (exact (rfl : _ = Value.slice _ _ _)); (exact (rfl : _ = some (Value.int _ _))))
  | ((with_reducible apply Zx); rfl; exact (rfl : _ = Value.pointer (some ⟨_, _, _⟩)); (exact (rfl : _ = Value.agg _)); (rfl); exact (rfl : _ = _ :: _))
  | ((with_reducible apply Z7 (nid := 1)); rfl; rfl; rfl; exact (rfl : _ = _ :: _))
  | ((with_reducible apply Z7 (nid := 2)); rfl; rfl; rfl; exact (rfl : _ = _ :: _))
  | ((with_reducible apply Zq (Z12)); rfl; rfl; rfl; rfl; rfl; (exact (rfl : _ = Value.agg _)))
  | with_reducible refine Za ?_
  | with_reducible refine Zg ?_
  | with_reducible refine Zf ?_
  | with_reducible refine Z9 ?_
  | with_reducible refine Zb ?_)
 refine Zb4 (Zbz.nilCell (k := 2) (j := 8) (b := 3) true 1 rfl (by decide) rfl (by show 0 < 10; decide) rfl rfl) ?_
 refine Zch (fun x : Nat × Bs => [dead, dead, pt 1 0, pt 2 0] ++ List.replicate 8 dead ++ [slv 0 0 ps.length c, Iv ps.length, Iv (x.1 : Nat)])
  (fun x => [Zjo ps, dgB (fun _ => 0), stM kk (Zbg (ps.take x.1)) x.2 3, Zaq (x.2 ++ tl (Zbg (ps.take x.1))), hole, hole, hole]) (fun x => x.1 ≤ ps.length) (fun x => ps.length - x.1) (0, []) (by simp) ?_ ?_
 ·refine Zal (n := 7) rfl ?_ ?_ rfl
  repeat (first | exact trivial | refine ⟨.inl rfl, ?_⟩ | refine ⟨.inr ⟨rfl, rfl⟩, ?_⟩)
  ·show _ = [Zjo ps, dgB (fun _ => 0), stM kk (Zbg (ps.take 0)) [] 3, Zaq ([] ++ tl (Zbg (ps.take 0))), hole, hole, hole]
   rw [show Zbg (ps.take 0) = [] from by simp [Zbg]]
   rfl
 ·rintro ⟨i, pre⟩ hi
  dsimp only at hi ⊢
  by_cases hlt : i < ps.length
  ·have hM : Zbg (ps.take (i + 1)) = Zbg (ps.take i) ++ bl ps[i] := by
    unfold Zbg
    rw [List.take_add_one, List.map_append, List.flatten_append]
    simp [hlt]
   have hsz : (tl (Zbg (ps.take i))).length + (ps[i]).size ≤ 140737488355328 := by
    have := hs ps[i] (List.getElem_mem hlt)
    rw [Zwa]; omega
   have hget : (Zjo ps).cells[i]? = some (Value.string ps[i]) := by simp [Zjo, hlt]
   generalize hMi : Zbg (ps.take i) = M at hM hsz
   repeat (first
    | ((with_reducible apply Zl); rfl; rfl; exact (rfl : _ = Value.pointer (some ⟨_, _, _⟩)); exact Zfd rfl rfl hget rfl)
    | ((with_reducible apply Zct (e := [some (2, 0), some (3, 0)]) (nid := 0) (Zuj kk hG M pre ps[i] hsz)); rfl; rfl; rfl; rfl; rfl; rfl; refine ⟨⟨⟨rfl, rfl⟩, rfl, trivial⟩, ⟨Zau rfl rfl rfl (congrArg (fun q => Zac w32 8 (Zn7 kk M) ++ [slv 3 q (tl M).length (tl M).length, w64 (BitVec.ofNat 64 M.length)]) (Nat.zero_add _).symm), Zau rfl rfl rfl rfl, trivial⟩, rfl, rfl, rfl, Nat.le_refl _⟩; exact (rfl : _ = Value.tuple _); rfl; exact (rfl : _ = _ :: _))
    | ((with_reducible apply Zbf (j := i)); rfl; rfl; exact (rfl : _ = Value.slice (some ⟨_, _, _⟩) _ _); (exact (rfl : _ = Value.int _ _)); (exact (rfl : _ = some (_, 1))); omega; omega; omega)
    | ((with_reducible apply Ze); rfl; rfl; (first
    | exact (rfl : _ = Value.int _ _)
    | exact (rfl : _ = Value.string _)))
    | ((with_reducible apply Zc); rfl; rfl; (exact (rfl : _ = Value.string _)))
    | ((with_reducible apply Zk); rfl; rfl; (exact (rfl : _ = Value.int _ _)); (exact (rfl : _ = Value.int _ _)); (first
    | with_reducible exact Zcq (by omega)
    | with_reducible exact Zaz rfl (by omega) (by omega)))
    | with_reducible refine Za ?_
    | with_reducible refine Zg ?_
    | with_reducible refine Zf ?_
    | with_reducible refine Z9 ?_
    | with_reducible refine Z2 ?_
    | with_reducible refine Zb ?_
    | with_reducible refine Zab ?_
    | ((with_reducible apply Zz); rfl))
   refine Zas ⟨(i + 1, Zft M ps[i]), by show i + 1 ≤ _; omega, by show _ - (i + 1) < _; omega, ?_⟩
   refine Zal (n := 7) rfl ?_ ?_ rfl
   repeat (first | exact trivial | refine ⟨.inl rfl, ?_⟩ | refine ⟨.inr ⟨rfl, rfl⟩, ?_⟩)
   ·show _ = [Zjo ps, dgB (fun _ => 0), stM kk (Zbg (ps.take (i + 1))) (Zft M ps[i]) 3, Zaq (Zft M ps[i] ++ tl (Zbg (ps.take (i + 1)))), hole, hole, hole]
    rw [hM]
    exact congrArg (fun q => [Zjo ps, dgB (fun _ => 0), stB (Zn7 kk (M ++ bl ps[i])) (slv 3 q (tl (M ++ bl ps[i])).length (tl (M ++ bl ps[i])).length) (w64 (BitVec.ofNat 64 (M ++ bl ps[i]).length)), Zaq (Zft M ps[i] ++ tl (M ++ bl ps[i])), hole, hole, hole]) (Nat.zero_add _)
  ·obtain rfl : i = ps.length := by omega
   rw [List.take_length]
   have htl : (tl (Zbg ps)).length < 64 := by rw [Zwa]; omega
   generalize hMi : Zbg ps = M at htl
   have hp : ∀ i, (Zfo M i).length = 1 + (119 - (tl M).length) % 64 + i := fun i => Zty _ _ i
   repeat (first
    | ((with_reducible apply Zv8 (nid := 4)); rfl; rfl; exact (rfl : _ = Value.int _ _); exact (rfl : _ = Value.int _ _); exact Zpj (n := (119 - (tl M).length) % 64 + 1) (c := 128) (rfl : _ = some (1, _, 1)) (by omega) rfl (by omega) (by decide) (by decide) rfl; exact (rfl : _ = _ :: _))
    | ((with_reducible apply Zx); rfl; exact (rfl : _ = Value.pointer (some ⟨4, _, _⟩)); exact (rfl : _ = Value.int _ _); exact Zlp rfl rfl rfl (Z3k _ _) (by simp) rfl rfl; exact (rfl : _ = _ :: _))
    | ((with_reducible apply Zbf (j := 0)); rfl; rfl; exact (rfl : _ = Value.slice (some ⟨_, _, _⟩) _ _); (exact (rfl : _ = Value.int _ _)); (exact (rfl : _ = some (_, 1))); omega; omega; omega)
    | ((with_reducible apply Ze); rfl; rfl; (first
    | exact (rfl : _ = Value.int _ _)
    | exact (rfl : _ = Value.slice _ _ _)))
    | ((with_reducible apply Zc); rfl; rfl; (first
    | exact (rfl : _ = Value.int _ _)
    | exact (rfl : _ = Value.slice _ _ _)))
    | ((with_reducible apply Zk); rfl; rfl; (exact (rfl : _ = Value.int _ _)); (exact (rfl : _ = Value.int _ _)); (first
    | with_reducible exact Zcj (by omega)
    | with_reducible exact Zaz rfl (by omega) (by omega)
    | with_reducible exact Zde rfl (by omega) (by omega)
    | with_reducible exact Z30 (by first | exact ofI _ _ | rfl) (by first | exact ofI _ _ | rfl)
    | with_reducible exact Z09 (by omega) (by omega)))
    | ((with_reducible apply Zi); rfl; rfl; exact (rfl : _ = Value.pointer (some ⟨_, _, _⟩)); (first
    | exact (rfl : _ = some 8)
    | exact (rfl : _ = some 9)); (exact Nat.zero_add _))
    | ((with_reducible apply Zl); rfl; rfl; exact (rfl : _ = Value.pointer (some ⟨_, _, _⟩)); (first
    | exact (rfl : _ = some (Value.int _ _))
    | exact (rfl : _ = some (Value.slice _ _ _))))
    | ((with_reducible apply Zbl); rfl; rfl; (exact (rfl : _ = Value.slice _ _ _)); (exact (rfl : _ = some (Value.int _ _))))
    | with_reducible refine Za ?_
    | with_reducible refine Zg ?_
    | with_reducible refine Zf ?_
    | with_reducible refine Z9 ?_
    | with_reducible refine Zbh ?_
    | with_reducible refine Zb ?_
    | with_reducible refine Zar ?_
    | with_reducible refine Za0 ?_
    | ((with_reducible apply Zv); rfl)
    | ((with_reducible apply Zaw); rfl))
   refine Zch (fun x : Nat × Nat => [dead, dead, pt 1 0, pt 2 0, dead, dead, w64 (Z20 M), slv 4 0 (Zfo M x.1).length x.2] ++ List.replicate 25 dead ++ [Iv (x.1 : Nat)])
    (fun x => [Zjo ps, dgB (fun _ => 0), stM kk M pre 3, Zaq (pre ++ tl M), Zaq (Zfo M x.1)]) (fun x => x.1 ≤ 8) (fun x => 8 - x.1) (0, 128) (by show 0 ≤ 8; decide) ?_ ?_
   ·refine Zal (n := 5) rfl ?_ ?_ rfl
    ·rw [show (Zfo M (0, 128).1).length = (119 - (tl M).length) % 64 + 1 from by rw [hp]; omega]
     repeat (first | exact trivial | refine ⟨.inl rfl, ?_⟩ | refine ⟨.inr ⟨rfl, rfl⟩, ?_⟩)
    ·exact congrArg (fun q => [Zjo ps, dgB (fun _ => 0), stM kk M pre 3, Zaq (pre ++ tl M), ({ cells := w8 128 :: q, sz := 1, wr := true, fix := false, mv := true, pur := true } : Blk)]) (show List.replicate ((119 - (tl M).length) % 64) (w8 0) = List.map w8 (List.replicate ((119 - (tl M).length) % 64) 0) from by rw [List.map_replicate])
   ·rintro ⟨i, cap⟩ hi8
    dsimp only at hi8 ⊢
    by_cases hl8 : i < 8
    ·have hpi := hp i
     have hpi1 := hp (i + 1)
     refine Zaj 1 (H' := [Zjo ps, dgB (fun _ => 0), stM kk M pre 3, Zaq (pre ++ tl M), Zaq (Zfo M i), hole]) rfl ?_
     repeat (first
      | ((with_reducible apply Zda (nid := 5)); rfl; rfl; rfl; exact (rfl : _ = some (Value.slice _ _ _, _)); exact (rfl : _ = _ :: _))
      | ((with_reducible apply Zcv); rfl; rfl; rfl; exact .inl ⟨_, rfl⟩; exact (rfl : _ = Value.slice (some ⟨_, _, _⟩) _ _); exact (rfl : _ = Value.slice (some ⟨_, _, _⟩) _ _); exact Zen (n' := (Zfo M (i + 1)).length) (rfl : _ = some (1, _, 1)) (rfl : _ = some (1, _)) rfl rfl rfl rfl rfl (by simp [Zaq]) (by decide) (by omega) (by omega); rfl; exact (rfl : _ = _ :: _))
      | ((with_reducible apply Ze); rfl; rfl; (first
      | exact (rfl : _ = Value.int _ _)
      | exact (rfl : _ = Value.slice _ _ _)))
      | ((with_reducible apply Zc); rfl; rfl; (first
      | exact (rfl : _ = Value.int _ _)
      | exact (rfl : _ = Value.slice _ _ _)))
      | ((with_reducible apply Zk); rfl; rfl; (exact (rfl : _ = Value.int _ _)); (exact (rfl : _ = Value.int _ _)); (first
      | with_reducible exact Zcq (by omega)
      | with_reducible exact Zaz rfl (by omega) (by omega)
      | with_reducible exact Zde rfl (by omega) (by omega)
      | with_reducible exact Zx3 rfl (by omega) (by omega)
      | with_reducible exact Zls (by omega)))
      | ((with_reducible apply Zdb); rfl; rfl; (exact (rfl : _ = Value.int _ _)); (exact Zgg rfl rfl (by first | exact Ze5 _ | rfl)))
      | with_reducible refine Za ?_
      | with_reducible refine Zg ?_
      | with_reducible refine Zf ?_
      | with_reducible refine Z9 ?_
      | with_reducible refine Z2 ?_
      | with_reducible refine Zb ?_
      | with_reducible refine Zab ?_
      | ((with_reducible apply Zz); rfl))
     refine Zas ⟨(i + 1, (Zfo M (i + 1)).length), by show i + 1 ≤ 8; omega, by show 8 - (i + 1) < 8 - i; omega, ?_⟩
     refine Zal (n := 5) rfl ?_ ?_ rfl
     repeat (first | exact trivial | refine ⟨.inl rfl, ?_⟩ | refine ⟨.inr ⟨rfl, rfl⟩, ?_⟩)
     ·have hq : List.take ((Zfo M i).length * 1) (List.drop 0 ((Zfo M i).map w8)) ++ [w8 (Z0d (Z20 M) i)] = (Zfo M (i + 1)).map w8 := by
       rw [Nat.mul_one, List.drop_zero, List.take_of_length_le (by simp)]
       show _ = List.map w8 (Zfo M i ++ [Z0d (Z20 M) i])
       rw [List.map_append]; rfl
      exact congrArg (fun q => [Zjo ps, dgB (fun _ => 0), stM kk M pre 3, Zaq (pre ++ tl M), ({ cells := q, sz := 1, wr := true, fix := false, mv := true, pur := true } : Blk)]) hq
    ·obtain rfl : i = 8 := by omega
     have hp8 := hp 8
     refine Zaj 1 (H' := [Zjo ps, dgB (fun _ => 0), stM kk M pre 3, Zaq (pre ++ tl M), Zaq (Zfo M 8), hole]) rfl ?_
     have hS : bl (Zn (Zfo M 8)) = Zfo M 8 := Zov _
     have hsz : (tl M).length + (Zn (Zfo M 8)).size ≤ 140737488355328 := by rw [Zay]; omega
     repeat (first
      | ((with_reducible apply Zfm); rfl; rfl; exact (rfl : _ = Value.slice (some ⟨_, _, _⟩) _ _); exact Zd9 (l := Zfo M 8) rfl rfl rfl rfl (by simp [Zaq]) (by show List.take (Zfo M 8).length (List.drop 0 ((Zfo M 8).map w8)) = _; rw [List.drop_zero, List.take_of_length_le (by simp)]))
      | ((with_reducible apply Zct (e := [some (2, 0), some (3, 0)]) (nid := 0) (Zuj kk hG M pre (Zn (Zfo M 8)) hsz)); rfl; rfl; rfl; rfl; rfl; rfl; refine ⟨⟨⟨rfl, rfl⟩, rfl, trivial⟩, ⟨Zau rfl rfl rfl (congrArg (fun q => Zac w32 8 (Zn7 kk M) ++ [slv 3 q (tl M).length (tl M).length, w64 (BitVec.ofNat 64 M.length)]) (Nat.zero_add _).symm), Zau rfl rfl rfl rfl, trivial⟩, rfl, rfl, rfl, Nat.le_refl _⟩; exact (rfl : _ = Value.tuple _); rfl; exact (rfl : _ = _ :: _))
      | ((with_reducible apply Ze); rfl; rfl; (first
      | exact (rfl : _ = Value.int _ _)
      | exact (rfl : _ = Value.slice _ _ _)))
      | ((with_reducible apply Zk); rfl; rfl; (exact (rfl : _ = Value.int _ _)); (exact (rfl : _ = Value.int _ _)); (with_reducible exact Zcj (by omega)))
      | ((with_reducible apply Z7 (nid := 5)); rfl; rfl; rfl; exact (rfl : _ = _ :: _))
      | with_reducible refine Za ?_
      | with_reducible refine Zg ?_
      | with_reducible refine Zf ?_
      | with_reducible refine Z9 ?_
      | with_reducible refine Zbh ?_
      | with_reducible refine Zb ?_
      | with_reducible refine Zar ?_
      | with_reducible refine Za0 ?_
      | ((with_reducible apply Zv); rfl)
      | ((with_reducible apply Zaw); rfl))
     generalize hV : Zn7 kk (M ++ bl (Zn (Zfo M 8))) = V
     refine Zch (fun x : Nat => [dead, dead, pt 1 0, pt 2 0, dead, dead, dead, dead, dead, pt 5 0] ++ List.replicate 39 dead ++ [Iv (x : Nat)])
      (fun x : Nat => [Zjo ps, dgB (fun _ => 0), stB V (slv 3 (0 + (Zft M (Zn (Zfo M 8))).length) (tl (M ++ bl (Zn (Zfo M 8)))).length (tl (M ++ bl (Zn (Zfo M 8)))).length) (w64 (BitVec.ofNat 64 (M ++ bl (Zn (Zfo M 8))).length)), Zaq (Zft M (Zn (Zfo M 8)) ++ tl (M ++ bl (Zn (Zfo M 8)))), Zaq (Zfo M 8), dgB (Ztb V x)]) (fun x => x ≤ 32) (fun x => 32 - x) 0 (by omega) ?_ ?_
     ·subst hV
      refine Zal (n := 6) rfl ?_ rfl rfl
      repeat (first | exact trivial | refine ⟨.inl rfl, ?_⟩ | refine ⟨.inr ⟨rfl, rfl⟩, ?_⟩)
     ·intro x hx
      by_cases hl : x < 32
      repeat (first
       | ((with_reducible apply Zdw (j := x / 4)); rfl; rfl; exact (rfl : _ = Value.pointer (some ⟨_, _, _⟩)); (exact (rfl : _ = Value.int _ _)); (exact (rfl : _ = some (_, 1))); omega; omega; omega)
       | ((with_reducible apply Zdw (j := x)); rfl; rfl; exact (rfl : _ = Value.pointer (some ⟨_, _, _⟩)); (exact (rfl : _ = Value.int _ _)); (exact (rfl : _ = some (_, 1))); omega; omega; omega)
       | ((with_reducible apply Ze); rfl; rfl; (exact (rfl : _ = Value.int _ _)))
       | ((with_reducible apply Zc); rfl; rfl; (exact (rfl : _ = Value.int _ _)))
       | ((with_reducible apply Zk); rfl; rfl; (exact (rfl : _ = Value.int _ _)); (exact (rfl : _ = Value.int _ _)); (first
       | with_reducible exact Zcq (by omega)
       | with_reducible exact Zaz rfl (by omega) (by omega)
       | with_reducible exact Zde rfl (by omega) (by omega)
       | with_reducible exact Zx3 rfl (by omega) (by omega)
       | with_reducible exact Z1o (by omega)
       | with_reducible exact Z3z (by omega) (by omega) (by omega)
       | with_reducible exact Z09 (by omega) (by omega)))
       | ((with_reducible apply Zdb); rfl; rfl; (exact (rfl : _ = Value.int _ _)); (exact Zgg rfl rfl (by first | exact Ze5 _ | rfl)))
       | ((with_reducible apply Zi); rfl; rfl; exact (rfl : _ = Value.pointer (some ⟨_, _, _⟩)); (exact (rfl : _ = some 0)); (exact Nat.zero_add _))
       | ((with_reducible apply Zl); rfl; rfl; exact (rfl : _ = Value.pointer (some ⟨_, _, _⟩)); (exact Zo3 rfl rfl rfl (by omega) (fun _ => rfl)))
       | ((with_reducible apply Zx); rfl; exact (rfl : _ = Value.pointer (some ⟨_, _, _⟩)); (exact (rfl : _ = Value.int _ _)); (exact Zg5 rfl rfl rfl rfl rfl (by omega) rfl rfl); exact (rfl : _ = _ :: _))
       | with_reducible refine Za ?_
       | with_reducible refine Zg ?_
       | with_reducible refine Zf ?_
       | with_reducible refine Z9 ?_
       | with_reducible refine Z2 ?_
       | with_reducible refine Zb ?_
       | with_reducible refine Zab ?_
       | ((with_reducible apply Zz); rfl))
      refine Zas ⟨x + 1, by omega, by omega, ?_⟩
      refine Zal (n := 6) rfl ?_ rfl rfl
      repeat (first | exact trivial | refine ⟨.inl rfl, ?_⟩ | refine ⟨.inr ⟨rfl, rfl⟩, ?_⟩)
      ·obtain rfl : x = 32 := by omega
       repeat (first
        | ((with_reducible apply Zk); rfl; rfl; (exact (rfl : _ = Value.int _ _)); (exact (rfl : _ = Value.int _ _)); (with_reducible exact Zcj (by omega)))
        | ((with_reducible apply Zl); rfl; rfl; exact (rfl : _ = Value.pointer (some ⟨_, _, _⟩)); (exact (rfl : _ = some (Value.agg _))))
        | ((with_reducible apply Zx); rfl; exact (rfl : _ = Value.pointer (some ⟨_, _, _⟩)); (exact (rfl : _ = Value.agg _)); (rfl); exact (rfl : _ = _ :: _))
        | with_reducible refine Za ?_
        | with_reducible refine Zg ?_
        | with_reducible refine Zf ?_
        | with_reducible refine Zbh ?_
        | with_reducible refine Zt ?_
        | with_reducible refine Zb ?_
        | with_reducible refine Zar ?_
        | with_reducible refine Za0 ?_
        | ((with_reducible apply Zv); rfl)
        | ((with_reducible apply Zaw); rfl))
       refine Zu ?_
       refine Zm (v := .agg (Zac w8 32 (Ztb V 32)).toArray) rfl rfl rfl rfl ?_
       subst hMi
       rw [hS] at hV
       subst hV
       exact Zcr (Zb0 fun _ => rfl) rfl
end Go.Flat
end
section
namespace Go.Flat
open Go.Proofs
variable {G : Glob}
abbrev dgV (d : Nat → BitVec 8) : Value := .agg (Zac w8 32 d).toArray
def dgL (d : Nat → BitVec 8) : Bs := (List.range 32).map d
theorem Zoo (d : Nat → BitVec 8) : Zac w8 32 d = (dgL d).map w8 := by simp [Zac, dgL]
theorem Zev (d : Nat → BitVec 8) : (dgL d).length = 32 := by simp [dgL]
def Zof : ByteArray := ⟨#[1]⟩
def Ze8 (kk : Nat → BitVec 32) (a b : Nat → BitVec 8) : Nat → BitVec 8 := Zbi kk (Zbg [Zof, Zn (dgL a), Zn (dgL b)])
theorem Z1y (kk : Nat → BitVec 32) (hG : G 0 = some (Zac w32 64 kk)) : Zae Tryd.prog G 62 [] [] (dgV (Zbi kk [])) [] := by
 refine Zbj (fn := Tryd.f62) (nt := 2) rfl rfl rfl rfl ?_
 refine Zaj 1 (H' := [hole]) rfl ?_
 repeat (first
  | ((with_reducible apply Z4 (e := [none]) (nid := 0) (Zru kk hG [] 0 (by decide) (by simp))); rfl; rfl; rfl; rfl; rfl; rfl; rfl; refine ⟨⟨⟨rfl, rfl, rfl, rfl⟩, trivial⟩, ⟨⟨rfl, rfl, by show 0 < 1; decide⟩, trivial⟩, rfl, rfl, rfl⟩; exact (rfl : _ = Value.agg _); exact (rfl : _ = _ :: _))
  | ((with_reducible apply Zx); rfl; exact (rfl : _ = Value.pointer (some ⟨_, _, _⟩)); (exact (rfl : _ = Value.agg _)); (rfl); exact (rfl : _ = _ :: _))
  | ((with_reducible apply Z7 (nid := 0)); rfl; rfl; rfl; exact (rfl : _ = _ :: _))
  | with_reducible refine Za ?_
  | with_reducible refine Zg ?_
  | with_reducible refine Zf ?_
  | with_reducible refine Zt ?_
  | with_reducible refine Zb ?_)
 refine Zu ?_
 refine Zep (v := dgV (Zbi kk [])) ?_ (Zb0 fun _ => rfl) rfl
 rfl
theorem Zr9 (kk : Nat → BitVec 32) (hG : G 0 = some (Zac w32 64 kk)) (a b : Nat → BitVec 8) : Zae Tryd.prog G 56 [dgV a, dgV b] [] (dgV (Ze8 kk a b)) [] := by
 refine Zbj (fn := Tryd.f56) (nt := 11) rfl rfl rfl rfl ?_
 refine Zaj 4 (H' := [hole, hole, hole, hole]) rfl ?_
 have h32 : ∀ d : Nat → BitVec 8, (Zn (dgL d)).size = 32 := fun d => by rw [Zay, Zev]
 have hsz : ∀ s, s ∈ [Zof, Zn (dgL a), Zn (dgL b)] → s.size ≤ 70368744177664 := by
  intro s hs
  simp only [List.mem_cons, List.not_mem_nil, or_false] at hs
  rcases hs with rfl | rfl | rfl
  ·show 1 ≤ 70368744177664; omega
  ·rw [h32]; omega
  ·rw [h32]; omega
 repeat (first
  | ((with_reducible apply Zfm); rfl; rfl; exact (rfl : _ = Value.slice (some ⟨_, _, _⟩) _ _); first | exact Zd9 (l := dgL a) rfl rfl rfl rfl (by show 0 + 32 ≤ 32; decide) rfl | exact Zd9 (l := dgL b) rfl rfl rfl rfl (by show 0 + 32 ≤ 32; decide) rfl)
  | ((with_reducible apply Zda (nid := 3)); rfl; rfl; rfl; exact (rfl : _ = some (Value.slice _ _ _, _)); exact (rfl : _ = _ :: _))
  | ((with_reducible apply Z4 (e := [some (3, 0)]) (nid := 0) (Zru kk hG [Zof, Zn (dgL a), Zn (dgL b)] 3 (by simp) hsz)); rfl; rfl; rfl; rfl; rfl; rfl; rfl; refine ⟨⟨⟨rfl, rfl, rfl, Nat.le_refl _, Nat.le_refl _⟩, trivial⟩, ⟨Zcg rfl rfl (by show 0 + 3 ≤ 3; decide) rfl, trivial⟩, rfl, rfl, rfl⟩; exact (rfl : _ = Value.agg _); exact (rfl : _ = _ :: _))
  | ((with_reducible apply Zdd); rfl; rfl; (exact (rfl : _ = Value.pointer (some _))); rfl; rfl; (exact (rfl : _ = some (Value.slice (some ⟨_, _, _⟩) _ _))))
  | ((with_reducible apply Zx); rfl; exact (rfl : _ = Value.pointer (some ⟨_, _, _⟩)); (exact (rfl : _ = Value.agg _)); (rfl); exact (rfl : _ = _ :: _))
  | ((with_reducible apply Zbr (nid := 0)); rfl; rfl; (exact (rfl : _ = Value.agg _)); rfl; exact (rfl : _ = _ :: _))
  | ((with_reducible apply Zbr (nid := 1)); rfl; rfl; (exact (rfl : _ = Value.agg _)); rfl; exact (rfl : _ = _ :: _))
  | ((with_reducible apply Z7 (nid := 2)); rfl; rfl; rfl; exact (rfl : _ = _ :: _))
  | with_reducible refine Za ?_
  | with_reducible refine Zg ?_
  | with_reducible refine Zf ?_
  | with_reducible refine Zt ?_
  | with_reducible refine Zb ?_
  | (with_reducible refine Zcu (by kernel_rfl) ?_)
  | (with_reducible refine Zdu (by kernel_rfl) ?_))
 refine Zu ?_
 refine Zep (v := dgV (Ze8 kk a b)) ?_ (Zb0 fun _ => rfl) rfl
 rfl
end Go.Flat
end
section
namespace Go.Flat
open Go.Proofs
variable {G : Glob}
set_option maxHeartbeats 4000000 in
theorem Z1c (x : BitVec 64) : Zae Tryd.prog G 83 [w64 x] [] (Iv (Za2 x.toNat)) [] := by
 refine Zbj (fn := Tryd.f83) (nt := 25) rfl rfl rfl rfl ?_
 have hx := x.isLt
 have last : ∀ (y : BitVec 64), y.toNat < 256 → (y.setWidth 8).toNat = y.toNat := fun y hy => by rw [BitVec.toNat_setWidth]; omega
 have key : ∀ (y : BitVec 64), y.toNat < 256 → ((y.setWidth 8).toNat < 256 ∧ Za2 (y.setWidth 8).toNat ≤ 8) := fun y hy => ⟨(y.setWidth 8).isLt, Zqy (by have := (y.setWidth 8).isLt; omega)⟩
 by_cases h32 : (4294967296 : Int) ≤ (x.toNat : Int)
 by_cases h16 : (65536 : Int) ≤ ((x >>> Int.toNat 32).toNat : Int)
 by_cases h8 : (256 : Int) ≤ (((x >>> Int.toNat 32) >>> Int.toNat 16).toNat : Int)
 have e32 : (x >>> Int.toNat 32).toNat = x.toNat / 4294967296 := by rw [Ze7]; rfl
 have b32 : Za2 x.toNat = 32 + Za2 (x.toNat / 4294967296) := Zcc (k := 32) (by omega)
 have e16 : ((x >>> Int.toNat 32) >>> Int.toNat 16).toNat = (x >>> Int.toNat 32).toNat / 65536 := by rw [Ze7]; rfl
 have b16 : Za2 (x >>> Int.toNat 32).toNat = 16 + Za2 ((x >>> Int.toNat 32).toNat / 65536) := Zcc (k := 16) (by omega)
 have e8 : (((x >>> Int.toNat 32) >>> Int.toNat 16) >>> Int.toNat 8).toNat = ((x >>> Int.toNat 32) >>> Int.toNat 16).toNat / 256 := by rw [Ze7]; rfl
 have b8 : Za2 ((x >>> Int.toNat 32) >>> Int.toNat 16).toNat = 8 + Za2 (((x >>> Int.toNat 32) >>> Int.toNat 16).toNat / 256) := Zcc (k := 8) (by omega)
 have hlast : (((x >>> Int.toNat 32) >>> Int.toNat 16) >>> Int.toNat 8).toNat < 256 := by omega
 obtain ⟨k1, k2⟩ := key (((x >>> Int.toNat 32) >>> Int.toNat 16) >>> Int.toNat 8) hlast
 have k3 := last (((x >>> Int.toNat 32) >>> Int.toNat 16) >>> Int.toNat 8) hlast
 repeat (first
  | ((with_reducible apply Zgh); rfl; rfl; exact (rfl : _ = Value.string _); exact (rfl : _ = Value.int _ _); exact Zez rfl rfl (by omega) (by kernel_rfl))
  | ((with_reducible apply Ze); rfl; rfl; (exact (rfl : _ = Value.int _ _)))
  | ((with_reducible apply Zc); rfl; rfl; (exact (rfl : _ = Value.int _ _)))
  | ((with_reducible apply Zk); rfl; rfl; (exact (rfl : _ = Value.int _ _)); (exact (rfl : _ = Value.int _ _)); (first
  | with_reducible exact Zgm (by omega)
  | with_reducible exact Zaz rfl (by omega) (by omega)
  | with_reducible exact Zls (by omega)))
  | ((with_reducible apply Zdb); rfl; rfl; (exact (rfl : _ = Value.int _ _)); (first
  | exact Zgg rfl rfl (by first | exact Ze5 _ | rfl)
  | exact Zmg rfl rfl (by omega) (by omega)))
  | with_reducible refine Za ?_
  | with_reducible refine Zg ?_
  | with_reducible refine Zf ?_
  | with_reducible refine Zt ?_
  | with_reducible refine Zb ?_
  | ((with_reducible apply Zz); rfl))
 refine Zu ?_
 refine Zep (v := Iv _) rfl rfl ?_
 rw [k3]
 rw [b32, ← e32, b16, ← e16, b8, ← e8]
 congr 1 <;> omega
 have e32 : (x >>> Int.toNat 32).toNat = x.toNat / 4294967296 := by rw [Ze7]; rfl
 have b32 : Za2 x.toNat = 32 + Za2 (x.toNat / 4294967296) := Zcc (k := 32) (by omega)
 have e16 : ((x >>> Int.toNat 32) >>> Int.toNat 16).toNat = (x >>> Int.toNat 32).toNat / 65536 := by rw [Ze7]; rfl
 have b16 : Za2 (x >>> Int.toNat 32).toNat = 16 + Za2 ((x >>> Int.toNat 32).toNat / 65536) := Zcc (k := 16) (by omega)
 have hlast : ((x >>> Int.toNat 32) >>> Int.toNat 16).toNat < 256 := by omega
 obtain ⟨k1, k2⟩ := key ((x >>> Int.toNat 32) >>> Int.toNat 16) hlast
 have k3 := last ((x >>> Int.toNat 32) >>> Int.toNat 16) hlast
 repeat (first
  | ((with_reducible apply Zgh); rfl; rfl; exact (rfl : _ = Value.string _); exact (rfl : _ = Value.int _ _); exact Zez rfl rfl (by omega) (by kernel_rfl))
  | ((with_reducible apply Ze); rfl; rfl; (exact (rfl : _ = Value.int _ _)))
  | ((with_reducible apply Zc); rfl; rfl; (exact (rfl : _ = Value.int _ _)))
  | ((with_reducible apply Zk); rfl; rfl; (exact (rfl : _ = Value.int _ _)); (exact (rfl : _ = Value.int _ _)); (first
  | with_reducible exact Zgm (by omega)
  | with_reducible exact Zgl (by omega)
  | with_reducible exact Zaz rfl (by omega) (by omega)
  | with_reducible exact Zls (by omega)))
  | ((with_reducible apply Zdb); rfl; rfl; (exact (rfl : _ = Value.int _ _)); (first
  | exact Zgg rfl rfl (by first | exact Ze5 _ | rfl)
  | exact Zmg rfl rfl (by omega) (by omega)))
  | with_reducible refine Za ?_
  | with_reducible refine Zg ?_
  | with_reducible refine Zf ?_
  | with_reducible refine Z2 ?_
  | with_reducible refine Zt ?_
  | with_reducible refine Zb ?_
  | ((with_reducible apply Zz); rfl)
  | ((with_reducible apply Zv); rfl))
 refine Zu ?_
 refine Zep (v := Iv _) rfl rfl ?_
 rw [k3]
 rw [b32, ← e32, b16, ← e16]
 congr 1 <;> omega
 by_cases h8 : (256 : Int) ≤ ((x >>> Int.toNat 32).toNat : Int)
 have e32 : (x >>> Int.toNat 32).toNat = x.toNat / 4294967296 := by rw [Ze7]; rfl
 have b32 : Za2 x.toNat = 32 + Za2 (x.toNat / 4294967296) := Zcc (k := 32) (by omega)
 have e8 : ((x >>> Int.toNat 32) >>> Int.toNat 8).toNat = (x >>> Int.toNat 32).toNat / 256 := by rw [Ze7]; rfl
 have b8 : Za2 (x >>> Int.toNat 32).toNat = 8 + Za2 ((x >>> Int.toNat 32).toNat / 256) := Zcc (k := 8) (by omega)
 have hlast : ((x >>> Int.toNat 32) >>> Int.toNat 8).toNat < 256 := by omega
 obtain ⟨k1, k2⟩ := key ((x >>> Int.toNat 32) >>> Int.toNat 8) hlast
 have k3 := last ((x >>> Int.toNat 32) >>> Int.toNat 8) hlast
 repeat (first
  | ((with_reducible apply Zgh); rfl; rfl; exact (rfl : _ = Value.string _); exact (rfl : _ = Value.int _ _); exact Zez rfl rfl (by omega) (by kernel_rfl))
  | ((with_reducible apply Ze); rfl; rfl; (exact (rfl : _ = Value.int _ _)))
  | ((with_reducible apply Zc); rfl; rfl; (exact (rfl : _ = Value.int _ _)))
  | ((with_reducible apply Zk); rfl; rfl; (exact (rfl : _ = Value.int _ _)); (exact (rfl : _ = Value.int _ _)); (first
  | with_reducible exact Zgm (by omega)
  | with_reducible exact Zgl (by omega)
  | with_reducible exact Zaz rfl (by omega) (by omega)
  | with_reducible exact Zls (by omega)))
  | ((with_reducible apply Zdb); rfl; rfl; (exact (rfl : _ = Value.int _ _)); (first
  | exact Zgg rfl rfl (by first | exact Ze5 _ | rfl)
  | exact Zmg rfl rfl (by omega) (by omega)))
  | with_reducible refine Za ?_
  | with_reducible refine Zg ?_
  | with_reducible refine Zf ?_
  | with_reducible refine Z2 ?_
  | with_reducible refine Zt ?_
  | with_reducible refine Zb ?_
  | ((with_reducible apply Zz); rfl)
  | ((with_reducible apply Zv); rfl))
 refine Zu ?_
 refine Zep (v := Iv _) rfl rfl ?_
 rw [k3]
 rw [b32, ← e32, b8, ← e8]
 congr 1 <;> omega
 have e32 : (x >>> Int.toNat 32).toNat = x.toNat / 4294967296 := by rw [Ze7]; rfl
 have b32 : Za2 x.toNat = 32 + Za2 (x.toNat / 4294967296) := Zcc (k := 32) (by omega)
 have hlast : (x >>> Int.toNat 32).toNat < 256 := by omega
 obtain ⟨k1, k2⟩ := key (x >>> Int.toNat 32) hlast
 have k3 := last (x >>> Int.toNat 32) hlast
 repeat (first
  | ((with_reducible apply Zgh); rfl; rfl; exact (rfl : _ = Value.string _); exact (rfl : _ = Value.int _ _); exact Zez rfl rfl (by omega) (by kernel_rfl))
  | ((with_reducible apply Ze); rfl; rfl; (exact (rfl : _ = Value.int _ _)))
  | ((with_reducible apply Zc); rfl; rfl; (exact (rfl : _ = Value.int _ _)))
  | ((with_reducible apply Zk); rfl; rfl; (exact (rfl : _ = Value.int _ _)); (exact (rfl : _ = Value.int _ _)); (first
  | with_reducible exact Zgm (by omega)
  | with_reducible exact Zgl (by omega)
  | with_reducible exact Zaz rfl (by omega) (by omega)
  | with_reducible exact Zls (by omega)))
  | ((with_reducible apply Zdb); rfl; rfl; (exact (rfl : _ = Value.int _ _)); (first
  | exact Zgg rfl rfl (by first | exact Ze5 _ | rfl)
  | exact Zmg rfl rfl (by omega) (by omega)))
  | with_reducible refine Za ?_
  | with_reducible refine Zg ?_
  | with_reducible refine Zf ?_
  | with_reducible refine Z2 ?_
  | with_reducible refine Zt ?_
  | with_reducible refine Zb ?_
  | ((with_reducible apply Zz); rfl)
  | ((with_reducible apply Zv); rfl))
 refine Zu ?_
 refine Zep (v := Iv _) rfl rfl ?_
 rw [k3]
 rw [b32, ← e32]
 congr 1 <;> omega
 by_cases h16 : (65536 : Int) ≤ (x.toNat : Int)
 by_cases h8 : (256 : Int) ≤ ((x >>> Int.toNat 16).toNat : Int)
 have e16 : (x >>> Int.toNat 16).toNat = x.toNat / 65536 := by rw [Ze7]; rfl
 have b16 : Za2 x.toNat = 16 + Za2 (x.toNat / 65536) := Zcc (k := 16) (by omega)
 have e8 : ((x >>> Int.toNat 16) >>> Int.toNat 8).toNat = (x >>> Int.toNat 16).toNat / 256 := by rw [Ze7]; rfl
 have b8 : Za2 (x >>> Int.toNat 16).toNat = 8 + Za2 ((x >>> Int.toNat 16).toNat / 256) := Zcc (k := 8) (by omega)
 have hlast : ((x >>> Int.toNat 16) >>> Int.toNat 8).toNat < 256 := by omega
 obtain ⟨k1, k2⟩ := key ((x >>> Int.toNat 16) >>> Int.toNat 8) hlast
 have k3 := last ((x >>> Int.toNat 16) >>> Int.toNat 8) hlast
 repeat (first
  | ((with_reducible apply Zgh); rfl; rfl; exact (rfl : _ = Value.string _); exact (rfl : _ = Value.int _ _); exact Zez rfl rfl (by omega) (by kernel_rfl))
  | ((with_reducible apply Ze); rfl; rfl; (exact (rfl : _ = Value.int _ _)))
  | ((with_reducible apply Zc); rfl; rfl; (exact (rfl : _ = Value.int _ _)))
  | ((with_reducible apply Zk); rfl; rfl; (exact (rfl : _ = Value.int _ _)); (exact (rfl : _ = Value.int _ _)); (first
  | with_reducible exact Zgm (by omega)
  | with_reducible exact Zgl (by omega)
  | with_reducible exact Zaz rfl (by omega) (by omega)
  | with_reducible exact Zls (by omega)))
  | ((with_reducible apply Zdb); rfl; rfl; (exact (rfl : _ = Value.int _ _)); (first
  | exact Zgg rfl rfl (by first | exact Ze5 _ | rfl)
  | exact Zmg rfl rfl (by omega) (by omega)))
  | with_reducible refine Za ?_
  | with_reducible refine Zg ?_
  | with_reducible refine Zf ?_
  | with_reducible refine Z2 ?_
  | with_reducible refine Zt ?_
  | with_reducible refine Zb ?_
  | ((with_reducible apply Zz); rfl)
  | ((with_reducible apply Zv); rfl))
 refine Zu ?_
 refine Zep (v := Iv _) rfl rfl ?_
 rw [k3]
 rw [b16, ← e16, b8, ← e8]
 congr 1 <;> omega
 have e16 : (x >>> Int.toNat 16).toNat = x.toNat / 65536 := by rw [Ze7]; rfl
 have b16 : Za2 x.toNat = 16 + Za2 (x.toNat / 65536) := Zcc (k := 16) (by omega)
 have hlast : (x >>> Int.toNat 16).toNat < 256 := by omega
 obtain ⟨k1, k2⟩ := key (x >>> Int.toNat 16) hlast
 have k3 := last (x >>> Int.toNat 16) hlast
 repeat (first
  | ((with_reducible apply Zgh); rfl; rfl; exact (rfl : _ = Value.string _); exact (rfl : _ = Value.int _ _); exact Zez rfl rfl (by omega) (by kernel_rfl))
  | ((with_reducible apply Ze); rfl; rfl; (exact (rfl : _ = Value.int _ _)))
  | ((with_reducible apply Zc); rfl; rfl; (exact (rfl : _ = Value.int _ _)))
  | ((with_reducible apply Zk); rfl; rfl; (exact (rfl : _ = Value.int _ _)); (exact (rfl : _ = Value.int _ _)); (first
  | with_reducible exact Zgm (by omega)
  | with_reducible exact Zgl (by omega)
  | with_reducible exact Zaz rfl (by omega) (by omega)
  | with_reducible exact Zls (by omega)))
  | ((with_reducible apply Zdb); rfl; rfl; (exact (rfl : _ = Value.int _ _)); (first
  | exact Zgg rfl rfl (by first | exact Ze5 _ | rfl)
  | exact Zmg rfl rfl (by omega) (by omega)))
  | with_reducible refine Za ?_
  | with_reducible refine Zg ?_
  | with_reducible refine Zf ?_
  | with_reducible refine Z2 ?_
  | with_reducible refine Zt ?_
  | with_reducible refine Zb ?_
  | ((with_reducible apply Zz); rfl)
  | ((with_reducible apply Zv); rfl))
 refine Zu ?_
 refine Zep (v := Iv _) rfl rfl ?_
 rw [k3]
 rw [b16, ← e16]
 congr 1 <;> omega
 by_cases h8 : (256 : Int) ≤ (x.toNat : Int)
 have e8 : (x >>> Int.toNat 8).toNat = x.toNat / 256 := by rw [Ze7]; rfl
 have b8 : Za2 x.toNat = 8 + Za2 (x.toNat / 256) := Zcc (k := 8) (by omega)
 have hlast : (x >>> Int.toNat 8).toNat < 256 := by omega
 obtain ⟨k1, k2⟩ := key (x >>> Int.toNat 8) hlast
 have k3 := last (x >>> Int.toNat 8) hlast
 repeat (first
  | ((with_reducible apply Zgh); rfl; rfl; exact (rfl : _ = Value.string _); exact (rfl : _ = Value.int _ _); exact Zez rfl rfl (by omega) (by kernel_rfl))
  | ((with_reducible apply Ze); rfl; rfl; (exact (rfl : _ = Value.int _ _)))
  | ((with_reducible apply Zc); rfl; rfl; (exact (rfl : _ = Value.int _ _)))
  | ((with_reducible apply Zk); rfl; rfl; (exact (rfl : _ = Value.int _ _)); (exact (rfl : _ = Value.int _ _)); (first
  | with_reducible exact Zgm (by omega)
  | with_reducible exact Zgl (by omega)
  | with_reducible exact Zaz rfl (by omega) (by omega)
  | with_reducible exact Zls (by omega)))
  | ((with_reducible apply Zdb); rfl; rfl; (exact (rfl : _ = Value.int _ _)); (first
  | exact Zgg rfl rfl (by first | exact Ze5 _ | rfl)
  | exact Zmg rfl rfl (by omega) (by omega)))
  | with_reducible refine Za ?_
  | with_reducible refine Zg ?_
  | with_reducible refine Zf ?_
  | with_reducible refine Z2 ?_
  | with_reducible refine Zt ?_
  | with_reducible refine Zb ?_
  | ((with_reducible apply Zz); rfl)
  | ((with_reducible apply Zv); rfl))
 refine Zu ?_
 refine Zep (v := Iv _) rfl rfl ?_
 rw [k3]
 rw [b8, ← e8]
 congr 1 <;> omega
 have hlast : x.toNat < 256 := by omega
 obtain ⟨k1, k2⟩ := key x hlast
 have k3 := last x hlast
 repeat (first
  | ((with_reducible apply Zgh); rfl; rfl; exact (rfl : _ = Value.string _); exact (rfl : _ = Value.int _ _); exact Zez rfl rfl (by omega) (by kernel_rfl))
  | ((with_reducible apply Ze); rfl; rfl; (exact (rfl : _ = Value.int _ _)))
  | ((with_reducible apply Zc); rfl; rfl; (exact (rfl : _ = Value.int _ _)))
  | ((with_reducible apply Zk); rfl; rfl; (exact (rfl : _ = Value.int _ _)); (exact (rfl : _ = Value.int _ _)); (first
  | with_reducible exact Zgl (by omega)
  | with_reducible exact Zaz rfl (by omega) (by omega)))
  | ((with_reducible apply Zdb); rfl; rfl; (exact (rfl : _ = Value.int _ _)); (first
  | exact Zgg rfl rfl (by first | exact Ze5 _ | rfl)
  | exact Zmg rfl rfl (by omega) (by omega)))
  | with_reducible refine Za ?_
  | with_reducible refine Zg ?_
  | with_reducible refine Zf ?_
  | with_reducible refine Z2 ?_
  | with_reducible refine Zt ?_
  | with_reducible refine Zb ?_
  | ((with_reducible apply Zv); rfl))
 refine Zu ?_
 refine Zep (v := Iv _) rfl rfl ?_
 rw [k3]
 congr 1 <;> omega
end Go.Flat
end
section
namespace Go.Flat
open Go.Proofs
variable {G : Glob}
theorem Z4k (x : BitVec 64) : Zae Tryd.prog G 72 [w64 x] [] (Iv (Za2 x.toNat)) [] := by
 refine Zbj (fn := Tryd.f72) (nt := 8) rfl rfl rfl rfl ?_
 refine Zf (Zg (Zc rfl rfl (Iv 0) rfl (Za (Zb (Zf (Zv rfl (Z2 (Zb (Zf (Zg (Ze rfl rfl (w64 x) rfl ?_)))))))))))
 refine Zq (Z1c (G := G) x) (vals := [w64 x]) (res' := Iv (((Za2 x.toNat) : Nat) : Int)) rfl rfl rfl rfl rfl rfl ?_
 refine Zc rfl rfl (Iv (((Za2 x.toNat) : Nat) : Int)) rfl (Za (Zb (Zt (Zu ?_))))
 exact Zep (v := Iv (((Za2 x.toNat) : Nat) : Int)) rfl rfl rfl
def Zdz (n : Int) : Int := if n < 2 then 0 else 2 ^ (Za2 (n - 1).toNat - 1)
theorem Zo8 (n : Int) (h : n ≤ 9223372036854775807) : Zae Tryd.prog G 58 [Iv n] [] (Iv (Zdz n)) [] := by
 refine Zbj (fn := Tryd.f58) (nt := 11) rfl rfl rfl rfl ?_
 refine Zf (Zg (Zc rfl rfl (Iv 0) rfl (Za (Zb (Zf (Zf (Zg (Ze rfl rfl (Iv n) rfl ?_))))))))
 by_cases h1 : n < 2
 refine Zk (vx := Iv n) (vy := Iv 2) rfl rfl (.bool true) rfl rfl (Zcq (by omega)) ?_
 refine Za (Zb (Zz rfl (Zf (Zg (Zc rfl rfl (Iv 0) rfl (Za (Zb (Zt (Z3 (Zu ?_))))))))))
 rw [show Zdz n = 0 from if_pos h1]
 exact Zep (v := Iv 0) rfl rfl rfl
 have hof : (BitVec.ofInt 64 (n - 1)).toNat = (n - 1).toNat := by rw [BitVec.toNat_ofInt]; omega
 have hb : Za2 (n - 1).toNat ≤ 63 := Zqy (by omega)
 have hb1 : 1 ≤ Za2 (n - 1).toNat := by unfold Za2; rw [if_neg (by omega)]; omega
 have hs : Zdz n = 2 ^ ((((Za2 (BitVec.ofInt 64 (n - 1)).toNat) : Nat) : Int) - 1).toNat := by rw [Zdz, if_neg h1, hof]; congr 1; omega
 rw [← hof] at hb hb1
 refine Zk (vx := Iv n) (vy := Iv 2) rfl rfl (.bool false) rfl rfl (Zcj (by omega)) ?_
 refine Za (Zb (Zv rfl (Z2 (Zb (Zf (Zg (Ze rfl rfl (Iv n) rfl ?_)))))))
 refine Zk (vx := Iv n) (vy := Iv 1) rfl rfl (Iv (n - 1)) rfl rfl (Zde (by omega) (by omega) (by omega)) ?_
 refine Zdb (w := Iv (n - 1)) (v := w64 (BitVec.ofInt 64 (n - 1))) rfl rfl rfl (Zsp rfl rfl rfl) ?_
 refine Zq (Z4k (G := G) (BitVec.ofInt 64 (n - 1))) (vals := [w64 (BitVec.ofInt 64 (n - 1))]) (res' := Iv (((Za2 (BitVec.ofInt 64 (n - 1)).toNat) : Nat) : Int)) rfl rfl rfl rfl rfl rfl ?_
 refine Zk (vx := Iv (((Za2 (BitVec.ofInt 64 (n - 1)).toNat) : Nat) : Int)) (vy := Iv 1) rfl rfl (Iv ((((Za2 (BitVec.ofInt 64 (n - 1)).toNat) : Nat) : Int) - 1)) rfl rfl (Zde (by omega) (by omega) (by omega)) ?_
 refine Zk (vx := Iv 1) (vy := Iv ((((Za2 (BitVec.ofInt 64 (n - 1)).toNat) : Nat) : Int) - 1)) rfl rfl (Iv (Zdz n)) rfl rfl (hs ▸ Z2g (by omega) (by omega)) ?_
 refine Zc rfl rfl (Iv (Zdz n)) rfl (Za (Zb (Zt (Zu ?_))))
 exact Zep (v := Iv (Zdz n)) rfl rfl rfl
end Go.Flat
end
section
namespace Go.Flat
open Go.Proofs
variable {G : Glob}
theorem Z2p (hG : G 2 = some (Zac u8N 64 dbF)) (n : Nat) (h0 : 0 < n) (h1 : n < 18446744073709551616) : Zae Tryd.prog G 78 [w64 (BitVec.ofNat 64 n)] [] (Iv (tz n)) [] := by
 refine Zbj (fn := Tryd.f78) (nt := 14) rfl rfl rfl rfl ?_
 generalize hx : BitVec.ofNat 64 n = x
 have hx0 : x.toNat = n := by rw [← hx, BitVec.toNat_ofNat]; omega
 have e : (((x &&& -x) * BitVec.ofInt 64 285870213051353865) >>> Int.toNat 58).toNat = ((x &&& -x) * BitVec.ofInt 64 285870213051353865).toNat / 288230376151711744 := by rw [Ze7]; rfl
 have hl := ((x &&& -x) * BitVec.ofInt 64 285870213051353865).isLt
 have hb := Z4u (((x &&& -x) * BitVec.ofInt 64 285870213051353865) >>> Int.toNat 58).toNat
 repeat (first
  | ((with_reducible apply Zha); rfl; rfl; exact (rfl : _ = Value.int _ _); exact Z07 (ofI _ _))
  | ((with_reducible apply Zl); rfl; rfl; exact (rfl : _ = Value.pointer (some ⟨_, _, _⟩)); exact Zqr rfl hG (by omega) (fun _ => rfl))
  | ((with_reducible apply Zdw (j := (((x &&& -x) * BitVec.ofInt 64 285870213051353865) >>> Int.toNat 58).toNat)); rfl; rfl; exact (rfl : _ = Value.pointer (some ⟨_, _, _⟩)); (exact (rfl : _ = Value.int _ _)); (exact (rfl : _ = some (_, 1))); omega; omega; omega)
  | ((with_reducible apply Ze); rfl; rfl; (exact (rfl : _ = Value.int _ _)))
  | ((with_reducible apply Zc); rfl; rfl; (exact (rfl : _ = Value.int _ _)))
  | ((with_reducible apply Zk); rfl; rfl; (exact (rfl : _ = Value.int _ _)); (exact (rfl : _ = Value.int _ _)); (first
  | with_reducible exact Zge (by omega)
  | with_reducible exact Z30 (by first | exact ofI _ _ | rfl) (by first | exact ofI _ _ | rfl)
  | with_reducible exact Z33 (by first | exact ofI _ _ | rfl) (by first | exact ofI _ _ | rfl)
  | with_reducible exact Zls (by omega)))
  | ((with_reducible apply Zdb); rfl; rfl; (exact (rfl : _ = Value.int _ _)); (exact Zmg rfl rfl (by omega) (by omega)))
  | with_reducible refine Za ?_
  | with_reducible refine Zg ?_
  | with_reducible refine Zf ?_
  | with_reducible refine Z2 ?_
  | with_reducible refine Zt ?_
  | with_reducible refine Zb ?_
  | ((with_reducible apply Zv); rfl))
 refine Zu ?_
 refine Zep (v := Iv _) rfl rfl ?_
 have := Z51 h0 (by omega)
 simp only [hx] at this
 rw [← this]
 rfl
theorem Z5s (hG : G 2 = some (Zac u8N 64 dbF)) (n : Nat) (h0 : 0 < n) (h1 : n < 18446744073709551616) : Zae Tryd.prog G 64 [w64 (BitVec.ofNat 64 n)] [] (Iv (tz n)) [] := by
 refine Zbj (fn := Tryd.f64) (nt := 8) rfl rfl rfl rfl ?_
 repeat (first
  | ((with_reducible apply Ze); rfl; rfl; (exact (rfl : _ = Value.int _ _)))
  | ((with_reducible apply Zc); rfl; rfl; (exact (rfl : _ = Value.int _ _)))
  | ((with_reducible apply Zq (Z2p hG n h0 h1)); rfl; rfl; rfl; rfl; rfl; (exact (rfl : _ = Value.int _ _)))
  | with_reducible refine Za ?_
  | with_reducible refine Zg ?_
  | with_reducible refine Zf ?_
  | with_reducible refine Z2 ?_
  | with_reducible refine Zt ?_
  | with_reducible refine Zb ?_
  | ((with_reducible apply Zv); rfl))
 refine Zu ?_
 exact Zep (v := Iv _) rfl rfl rfl
end Go.Flat
end
section
namespace Go.Flat
open Go.Proofs
variable {G : Glob}
abbrev D := Nat → BitVec 8
def dsC (ds : List D) : List Value := (ds.map (Zac w8 32)).flatten
def dsB (ds : List D) : Blk := { cells := dsC ds, sz := 32, wr := true, fix := false, mv := true, pur := true }
def dsR (ds : List D) : Blk := { cells := dsC ds, sz := 32, wr := false, fix := false, mv := true, pur := true }
def Zqc (v : Value) : Blk := { cells := [v], sz := 1, wr := true, fix := true, mv := false, pur := false }
theorem Zb7 (ds : List D) : (dsC ds).length = ds.length * 32 := by
 induction ds with
 | nil => rfl
 | cons d ds ih => simp only [dsC, List.map_cons, List.flatten_cons, List.length_append, Zbs, List.length_cons] at ih ⊢; omega
theorem Zi8 (p q : List D) : dsC (p ++ q) = dsC p ++ dsC q := by simp [dsC]
theorem Zow (p q : List D) : (dsC (p ++ q)).drop (p.length * 32) = dsC q := by
 rw [Zi8, List.drop_append_of_le_length (by rw [Zb7]; exact Nat.le_refl _), List.drop_of_length_le (by rw [Zb7]; exact Nat.le_refl _), List.nil_append]
theorem Zqi (p q : List D) : (dsC (p ++ q)).take (p.length * 32) = dsC p := by
 rw [Zi8, List.take_append_of_le_length (by rw [Zb7]; exact Nat.le_refl _), List.take_of_length_le (by rw [Zb7]; exact Nat.le_refl _)]
theorem Zg8 (d : D) (q : List D) : dsC (d :: q) = Zac w8 32 d ++ dsC q := by simp [dsC]
theorem Zvq (p : List D) (a : D) (q : List D) : ((dsC (p ++ a :: q)).drop (p.length * 32)).take 32 = Zac w8 32 a := by
 rw [Zow, Zg8, List.take_append_of_le_length (by rw [Zbs]; exact Nat.le_refl _), List.take_of_length_le (by rw [Zbs]; exact Nat.le_refl _)]
theorem Z3c (p : List D) (a b : D) (q : List D) : ((dsC (p ++ a :: b :: q)).drop ((p.length + 1) * 32)).take 32 = Zac w8 32 b := by
 have := Zvq (p ++ [a]) b q
 simpa using this
theorem Zq3 {n : Nat} (d : D) : (Zac w8 n d).all Zbk = true := Zqd fun _ => rfl
set_option maxHeartbeats 4000000 in
theorem Z1j (kk : Nat → BitVec 32) (hG : G 0 = some (Zac w32 64 kk)) (p : List D) (a b : D) (hp : p.length ≤ 1000000) :
  Zae Tryd.prog G 63 [pt 0 0] [Zqc (slv 1 0 (p.length + 2) (p.length + 2)), dsB (p ++ [a, b])] (.tuple #[]) [Zqc (slv 1 0 (p.length + 1) (p.length + 1)), dsB (p ++ [Ze8 kk a b])] := by
 refine Zbj (fn := Tryd.f63) (nt := 21) rfl rfl rfl rfl ?_
 refine Zaj 1 (H' := [Zqc (slv 1 0 (p.length + 2) (p.length + 2)), dsB (p ++ [a, b]), hole]) rfl ?_
 have hlen : (dsB (p ++ [a, b])).cells.length = (p.length + 2) * 32 := by show (dsC (p ++ [a, b])).length = _; rw [Zb7]; simp
 repeat (first
  | ((with_reducible apply Zdd); rfl; rfl; exact (rfl : _ = Value.slice (some ⟨_, _, _⟩) _ _); rfl; rfl; exact Zie (h := p.length) rfl rfl (by omega) (by omega) rfl)
  | ((with_reducible apply Zl); rfl; rfl; exact (rfl : _ = Value.pointer (some ⟨1, _, _⟩)); first | exact Zcx (n := 32) rfl rfl (by omega) (Zvq p a [b]) | exact Zcx (n := 32) rfl rfl (by omega) (Z3c p a b []))
  | ((with_reducible apply Zda (nid := 2)); rfl; rfl; rfl; exact (rfl : _ = some (Value.slice _ _ _, _)); exact (rfl : _ = _ :: _))
  | ((with_reducible apply Zcv); rfl; rfl; rfl; exact .inl ⟨_, rfl⟩; exact (rfl : _ = Value.slice (some ⟨_, _, _⟩) _ _); exact (rfl : _ = Value.slice (some ⟨_, _, _⟩) _ _); exact Zen (n' := p.length + 1) (rfl : _ = some (32, _, 32)) (rfl : _ = some (1, _)) rfl rfl rfl rfl rfl (by rw [hlen]; omega) (by decide) rfl (by omega); rfl; exact (rfl : _ = _ :: _))
  | ((with_reducible apply Zbf (j := p.length * 32)); rfl; rfl; exact (rfl : _ = Value.slice (some ⟨_, _, _⟩) _ _); (exact (rfl : _ = Value.int _ _)); (exact (rfl : _ = some (_, 32))); omega; omega; omega)
  | ((with_reducible apply Zbf (j := (p.length + 1) * 32)); rfl; rfl; exact (rfl : _ = Value.slice (some ⟨_, _, _⟩) _ _); (exact (rfl : _ = Value.int _ _)); (exact (rfl : _ = some (_, 32))); omega; omega; omega)
  | ((with_reducible apply Ze); rfl; rfl; (exact (rfl : _ = Value.int _ _)))
  | ((with_reducible apply Zc); rfl; rfl; (exact (rfl : _ = Value.int _ _)))
  | ((with_reducible apply Zk); rfl; rfl; (exact (rfl : _ = Value.int _ _)); (exact (rfl : _ = Value.int _ _)); (with_reducible exact Zde rfl (by omega) (by omega)))
  | ((with_reducible apply Zl); rfl; rfl; exact (rfl : _ = Value.pointer (some ⟨_, _, _⟩)); (exact (rfl : _ = some (Value.slice _ _ _))))
  | ((with_reducible apply Zbl); rfl; rfl; (exact (rfl : _ = Value.slice _ _ _)); (exact (rfl : _ = some (Value.int _ _))))
  | ((with_reducible apply Zx); rfl; exact (rfl : _ = Value.pointer (some ⟨_, _, _⟩)); (exact (rfl : _ = Value.slice _ _ _)); (rfl); exact (rfl : _ = _ :: _))
  | ((with_reducible apply Zq (Zr9 kk hG a b)); rfl; rfl; rfl; rfl; rfl; (exact (rfl : _ = Value.agg _)))
  | with_reducible refine Za ?_
  | with_reducible refine Zg ?_
  | with_reducible refine Zf ?_
  | with_reducible refine Zb ?_
  | (with_reducible refine Zcu (by kernel_rfl) ?_)
  | (with_reducible refine Zdu (by kernel_rfl) ?_))
 refine Zj0 ?_
 refine Zm (v := .tuple #[]) rfl ?_ rfl ?_ trivial
 ·have hq : List.take (p.length * 32) (List.drop 0 (dsC (p ++ [a, b]))) ++ Zac w8 32 (Ze8 kk a b) = dsC (p ++ [Ze8 kk a b]) := by
   rw [List.drop_zero, Zqi, Zi8, Zg8]; simp [dsC]
  exact congrArg (fun q => [Zqc (slv 1 0 (p.length + 1) (p.length + 1)), ({ cells := q, sz := 32, wr := true, fix := false, mv := true, pur := true } : Blk)]) hq
 ·rfl
end Go.Flat
end
section
namespace Go.Flat
open Go.Proofs
variable {G : Glob}
def d0 : D := fun _ => 0
def Zhv (kk : Nat → BitVec 32) (P : List D) : List D := P.take (P.length - 2) ++ [Ze8 kk (P.getD (P.length - 2) d0) (P.getD (P.length - 1) d0)]
def Zea (kk : Nat → BitVec 32) : Nat → List D → List D
  | 0, P => P
  | n + 1, P => Zhv kk (Zea kk n P)
def Zka (kk : Nat → BitVec 32) (ds : List D) : Nat → List D
  | 0 => []
  | i + 1 => Zea kk (tz (i + 1)) (Zka kk ds i ++ [ds.getD i d0])
theorem Zq8 (kk : Nat → BitVec 32) {P : List D} (h : 2 ≤ P.length) : (Zhv kk P).length = P.length - 1 := by simp [Zhv]; omega
theorem Zic (kk : Nat → BitVec 32) {P : List D} : ∀ n, n + 1 ≤ P.length → (Zea kk n P).length = P.length - n
 | 0, _ => rfl
 | n + 1, h => by
  have := Zic kk (P := P) n (by omega)
  simp only [Zea]
  rw [Zq8 kk (by omega), this]; omega
theorem Zkk (kk : Nat → BitVec 32) (ds : List D) : ∀ i, (Zka kk ds i).length = Zne i
 | 0 => rfl
 | i + 1 => by
  have h1 := Zkk kk ds i
  have h2 := (Zsr i).1
  simp only [Zka, Zne]
  rw [Zic kk _ (by simp; omega)]
  simp; omega
def Zcd (kk : Nat → BitVec 32) (ds : List D) : D := if ds.length = 0 then Zbi kk [] else (Zea kk (Zne ds.length - 1) (Zka kk ds ds.length)).getD 0 d0
theorem Z1a {P : List D} (h : 2 ≤ P.length) : P = P.take (P.length - 2) ++ [P.getD (P.length - 2) d0, P.getD (P.length - 1) d0] := by
 apply List.ext_getElem?
 intro i
 have hl : (P.take (P.length - 2)).length = P.length - 2 := by simp
 rcases Nat.lt_or_ge i (P.length - 2) with h1 | h1
 ·rw [List.getElem?_append_left (by omega), List.getElem?_take, if_pos h1]
 ·rw [List.getElem?_append_right (by omega), hl]
  rcases Nat.lt_or_ge i P.length with h2 | h2
  ·rcases Nat.eq_or_lt_of_le h1 with h3 | h3
   ·subst h3; simp [List.getD_eq_getElem?_getD]; rw [List.getElem?_eq_getElem (by omega)]; simp
   ·have : i = P.length - 1 := by omega
    subst this
    have e : P.length - 1 - (P.length - 2) = 1 := by omega
    rw [e]
    simp [List.getD_eq_getElem?_getD]; rw [List.getElem?_eq_getElem (by omega)]; simp
  ·rw [List.getElem?_eq_none h2, List.getElem?_eq_none (by simp; omega)]
theorem Zqv (kk : Nat → BitVec 32) (hG : G 0 = some (Zac w32 64 kk)) (P : List D) (h2 : 2 ≤ P.length) (hp : P.length ≤ 1000000) :
  Zae Tryd.prog G 63 [pt 0 0] [Zqc (slv 1 0 P.length P.length), dsB P] (.tuple #[]) [Zqc (slv 1 0 (Zhv kk P).length (Zhv kk P).length), dsB (Zhv kk P)] := by
 have h := Z1j (G := G) kk hG (P.take (P.length - 2)) (P.getD (P.length - 2) d0) (P.getD (P.length - 1) d0) (by simp; omega)
 rw [← Z1a h2] at h
 have e1 : (P.take (P.length - 2)).length + 2 = P.length := by simp; omega
 have e2 : (P.take (P.length - 2)).length + 1 = (Zhv kk P).length := by rw [Zq8 kk h2]; simp; omega
 rw [e1, e2] at h
 exact h
end Go.Flat
end
section
namespace Go.Flat
open Go.Proofs
variable {G : Glob}
theorem Zi0 (ds : List D) (i : Nat) (h : i < ds.length) : ((dsC ds).drop (i * 32)).take 32 = Zac w8 32 (ds.getD i d0) := by
 have e : ds = ds.take i ++ ds[i] :: ds.drop (i + 1) := by rw [← List.drop_eq_getElem_cons h, List.take_append_drop]
 have h2 := Zvq (ds.take i) ds[i] (ds.drop (i + 1))
 rw [← e] at h2
 rw [show (ds.take i).length = i from by simp; omega] at h2
 rw [h2]
 congr 1
 simp [List.getD_eq_getElem?_getD, h]
set_option maxHeartbeats 8000000 in
theorem Zsz (kk : Nat → BitVec 32) (hG : G 0 = some (Zac w32 64 kk)) (hG1 : G 2 = some (Zac u8N 64 dbF)) (ds : List D) (c : Nat) (hn : ds.length ≤ 1000000) (hc : ds.length ≤ c) :
  Zae Tryd.prog G 40 [slv 0 0 ds.length c] [dsR ds] (dgV (Zcd kk ds)) [dsR ds] := by
 refine Zbj (fn := Tryd.f40) (nt := 41) rfl rfl rfl rfl ?_
 have hR : (dsR ds).cells.length = ds.length * 32 := Zb7 ds
 by_cases h0 : ds.length = 0
 ·refine Zaj 1 (H' := [dsR ds, hole]) rfl ?_
  repeat (first
   | ((with_reducible apply Ze); rfl; rfl; (exact (rfl : _ = Value.slice _ _ _)))
   | ((with_reducible apply Zk); rfl; rfl; (exact (rfl : _ = Value.int _ _)); (exact (rfl : _ = Value.int _ _)); (with_reducible exact Zdl (by omega)))
   | ((with_reducible apply Zbl); rfl; rfl; (exact (rfl : _ = Value.slice _ _ _)); (exact (rfl : _ = some (Value.int _ _))))
   | ((with_reducible apply Zx); rfl; exact (rfl : _ = Value.pointer (some ⟨_, _, _⟩)); (exact (rfl : _ = Value.agg _)); (rfl); exact (rfl : _ = _ :: _))
   | ((with_reducible apply Z7 (nid := 1)); rfl; rfl; rfl; exact (rfl : _ = _ :: _))
   | ((with_reducible apply Zq (Z1y kk hG)); rfl; rfl; rfl; rfl; rfl; (exact (rfl : _ = Value.agg _)))
   | with_reducible refine Za ?_
   | with_reducible refine Zg ?_
   | with_reducible refine Zf ?_
   | with_reducible refine Zt ?_
   | with_reducible refine Zb ?_
   | with_reducible refine Z3 ?_
   | ((with_reducible apply Zz); rfl))
  refine Zu ?_
  refine Zm (v := dgV (Zbi kk [])) rfl rfl rfl ?_ ?_
  ·simp [Za9, dsR]
  ·exact Zcr (Zb0 fun _ => rfl) (by unfold Zcd; rw [if_pos h0])
 ·refine Zaj 2 (H' := [dsR ds, hole, hole]) rfl ?_
  repeat (first
   | ((with_reducible apply Ze); rfl; rfl; (first
   | exact (rfl : _ = Value.int _ _)
   | exact (rfl : _ = Value.slice _ _ _)))
   | ((with_reducible apply Zc); rfl; rfl; (exact (rfl : _ = Value.func _ _ _)))
   | ((with_reducible apply Zk); rfl; rfl; (exact (rfl : _ = Value.int _ _)); (exact (rfl : _ = Value.int _ _)); (with_reducible exact Zge (by omega)))
   | ((with_reducible apply Znn); rfl; rfl; (exact (rfl : _ = [])); (exact (rfl : _ = [_])); rfl)
   | ((with_reducible apply Zbl); rfl; rfl; (exact (rfl : _ = Value.slice _ _ _)); (exact (rfl : _ = some (Value.int _ _))))
   | ((with_reducible apply Z7 (nid := 1)); rfl; rfl; rfl; exact (rfl : _ = _ :: _))
   | ((with_reducible apply Z7 (nid := 2)); rfl; rfl; rfl; exact (rfl : _ = _ :: _))
   | with_reducible refine Za ?_
   | with_reducible refine Zg ?_
   | with_reducible refine Zf ?_
   | with_reducible refine Z9 ?_
   | with_reducible refine Z2 ?_
   | with_reducible refine Zb ?_
   | ((with_reducible apply Zv); rfl))
  refine Zb4 (Zbz.nilCell (k := 2) (j := 0) (b := 3) true 32 rfl (by decide) rfl (by show 0 < 1; decide) rfl rfl) ?_
  refine Zch (fun i : Nat => [dead, dead, pt 1 0, pt 2 0, .func (.func 63) #[] #[pt 2 0]] ++ List.replicate 7 dead ++ [slv 0 0 ds.length c, Iv ds.length, Iv (i : Nat)])
   (fun i => [dsR ds, dgB (fun _ => 0), Zqc (slv 3 0 (Zka kk ds i).length (Zka kk ds i).length), dsB (Zka kk ds i)]) (fun i => i ≤ ds.length) (fun i => ds.length - i) 0 (by omega) ?_ ?_
  ·refine Zal (n := 4) rfl ?_ rfl rfl
   repeat (first | exact trivial | refine ⟨.inl rfl, ?_⟩ | refine ⟨.inr ⟨rfl, rfl⟩, ?_⟩)
  ·intro i hi
   by_cases hlt : i < ds.length
   ·have hpl := Zkk kk ds i
    obtain ⟨ok1, ok2, ok3⟩ := Zsr i
    generalize hP : Zka kk ds i = P at hpl
    have hPl : (P ++ [ds.getD i d0]).length = Zne i + 1 := by simp [hpl]
    refine Zaj 2 (H' := [dsR ds, dgB (fun _ => 0), Zqc (slv 3 0 P.length P.length), dsB P, hole, hole]) rfl ?_
    have hBl : (dsB P).cells.length = P.length * 32 := Zb7 P
    have htz : (BitVec.ofInt 64 ((i : Int) + 1)) = BitVec.ofNat 64 (i + 1) := by rw [show ((i : Int) + 1) = ((i + 1 : Nat) : Int) from rfl, BitVec.ofInt_natCast]
    repeat (first
     | ((with_reducible apply Zl); rfl; rfl; exact (rfl : _ = Value.pointer (some ⟨0, _, _⟩)); exact Zcx (n := 32) rfl rfl (by omega) (Zi0 ds i hlt))
     | ((with_reducible apply Zda (nid := 5)); rfl; rfl; rfl; exact (rfl : _ = some (Value.slice _ _ _, _)); exact (rfl : _ = _ :: _))
     | ((with_reducible apply Zcv); rfl; rfl; rfl; exact .inl ⟨_, rfl⟩; exact (rfl : _ = Value.slice (some ⟨_, _, _⟩) _ _); exact (rfl : _ = Value.slice (some ⟨_, _, _⟩) _ _); exact Zen (n' := (P ++ [ds.getD i d0]).length) (rfl : _ = some (32, _, 32)) (rfl : _ = some (1, _)) rfl rfl rfl rfl rfl (by rw [hBl]; omega) (by decide) (by simp) (by omega); rfl; exact (rfl : _ = _ :: _))
     | ((with_reducible apply Zdb); rfl; rfl; exact (rfl : _ = Value.int _ _); exact Zsp rfl rfl htz)
     | ((with_reducible apply Zbf (j := i * 32)); rfl; rfl; exact (rfl : _ = Value.slice (some ⟨_, _, _⟩) _ _); (exact (rfl : _ = Value.int _ _)); (exact (rfl : _ = some (_, 32))); omega; omega; omega)
     | ((with_reducible apply Ze); rfl; rfl; (exact (rfl : _ = Value.int _ _)))
     | ((with_reducible apply Zc); rfl; rfl; (exact (rfl : _ = Value.int _ _)))
     | ((with_reducible apply Zk); rfl; rfl; (exact (rfl : _ = Value.int _ _)); (exact (rfl : _ = Value.int _ _)); (first
     | with_reducible exact Zcq (by omega)
     | with_reducible exact Zaz rfl (by omega) (by omega)))
     | ((with_reducible apply Zl); rfl; rfl; exact (rfl : _ = Value.pointer (some ⟨_, _, _⟩)); (first
     | exact (rfl : _ = some (Value.slice _ _ _))
     | exact (rfl : _ = some (Value.agg _))))
     | ((with_reducible apply Zx); rfl; exact (rfl : _ = Value.pointer (some ⟨_, _, _⟩)); (first
     | exact (rfl : _ = Value.slice _ _ _)
     | exact (rfl : _ = Value.agg _)); (rfl); exact (rfl : _ = _ :: _))
     | ((with_reducible apply Z7 (nid := 4)); rfl; rfl; rfl; exact (rfl : _ = _ :: _))
     | ((with_reducible apply Zq (Z5s hG1 (i + 1) (by omega) (by omega))); rfl; rfl; rfl; rfl; rfl; (exact (rfl : _ = Value.int _ _)))
     | with_reducible refine Za ?_
     | with_reducible refine Zg ?_
     | with_reducible refine Zf ?_
     | with_reducible refine Z9 ?_
     | with_reducible refine Z2 ?_
     | with_reducible refine Zb ?_
     | ((with_reducible apply Zz); rfl))
    have hcat : List.take (P.length * 32) (List.drop 0 (dsC P)) ++ Zac w8 32 (ds.getD i d0) = dsC (P ++ [ds.getD i d0]) := by
     rw [List.drop_zero, List.take_of_length_le (by rw [Zb7]; exact Nat.le_refl _), Zi8, Zg8]; simp [dsC]
    refine Zch (fun t : Nat => [dead, dead, pt 1 0, pt 2 0, .func (.func 63) #[] #[pt 2 0]] ++ List.replicate 7 dead ++ [slv 0 0 ds.length c, Iv ds.length, Iv (i : Nat)] ++ List.replicate 11 dead ++ [Iv (tz (i + 1)), Iv (t : Nat)])
     (fun t => [dsR ds, dgB (fun _ => 0), Zqc (slv 3 0 (Zea kk t (P ++ [ds.getD i d0])).length (Zea kk t (P ++ [ds.getD i d0])).length), dsB (Zea kk t (P ++ [ds.getD i d0])), dgB (ds.getD i d0)]) (fun t => t ≤ tz (i + 1)) (fun t => tz (i + 1) - t) 0 (by omega) ?_ ?_
    ·refine Zal (n := 5) rfl ?_ ?_ rfl
     repeat (first | exact trivial | refine ⟨.inl rfl, ?_⟩ | refine ⟨.inr ⟨rfl, rfl⟩, ?_⟩)
     ·exact congrArg (fun q => [dsR ds, dgB (fun _ => 0), Zqc (slv 3 0 (P ++ [ds.getD i d0]).length (P ++ [ds.getD i d0]).length), ({ cells := q, sz := 32, wr := true, fix := false, mv := true, pur := true } : Blk), dgB (ds.getD i d0)]) hcat
    ·intro t ht
     have hQl := Zic kk (P := P ++ [ds.getD i d0]) t (by omega)
     by_cases hlt2 : t < tz (i + 1)
     ·generalize hQ : Zea kk t (P ++ [ds.getD i d0]) = Q at hQl
      repeat (first
       | ((with_reducible apply Zct (e := [some (2, 0), some (3, 0)]) (nid := 0) (Zqv kk hG Q (by omega) (by omega))); rfl; rfl; rfl; rfl; rfl; rfl; refine ⟨⟨⟨rfl, rfl⟩, trivial⟩, ⟨Zau rfl rfl rfl rfl, Zau rfl rfl rfl rfl, trivial⟩, rfl, rfl, rfl, Nat.le_refl _⟩; exact (rfl : _ = Value.tuple _); rfl; exact (rfl : _ = _ :: _))
       | ((with_reducible apply Ze); rfl; rfl; (first
       | exact (rfl : _ = Value.int _ _)
       | exact (rfl : _ = Value.func _ _ _)))
       | ((with_reducible apply Zk); rfl; rfl; (exact (rfl : _ = Value.int _ _)); (exact (rfl : _ = Value.int _ _)); (first
       | with_reducible exact Zcq (by omega)
       | with_reducible exact Zaz rfl (by omega) (by omega)))
       | with_reducible refine Za ?_
       | with_reducible refine Zg ?_
       | with_reducible refine Zf ?_
       | with_reducible refine Z9 ?_
       | with_reducible refine Z2 ?_
       | with_reducible refine Zb ?_
       | with_reducible refine Zab ?_
       | ((with_reducible apply Zz); rfl))
      subst hQ
      refine Zas ⟨t + 1, by omega, by omega, ?_⟩
      refine Zal (n := 5) rfl ?_ rfl rfl
      repeat (first | exact trivial | refine ⟨.inl rfl, ?_⟩ | refine ⟨.inr ⟨rfl, rfl⟩, ?_⟩)
     ·obtain rfl : t = tz (i + 1) := by omega
      repeat (first
       | ((with_reducible apply Ze); rfl; rfl; (exact (rfl : _ = Value.int _ _)))
       | ((with_reducible apply Zk); rfl; rfl; (exact (rfl : _ = Value.int _ _)); (exact (rfl : _ = Value.int _ _)); (first
       | with_reducible exact Zcj (by omega)
       | with_reducible exact Zaz rfl (by omega) (by omega)))
       | with_reducible refine Za ?_
       | with_reducible refine Zg ?_
       | with_reducible refine Zf ?_
       | with_reducible refine Zbh ?_
       | with_reducible refine Zb ?_
       | with_reducible refine Zar ?_
       | with_reducible refine Zab ?_
       | with_reducible refine Za0 ?_
       | ((with_reducible apply Zv); rfl)
       | ((with_reducible apply Zaw); rfl))
      subst hP
      refine Zas ⟨i + 1, by omega, by omega, ?_⟩
      refine Zal (n := 4) rfl ?_ rfl rfl
      repeat (first | exact trivial | refine ⟨.inl rfl, ?_⟩ | refine ⟨.inr ⟨rfl, rfl⟩, ?_⟩)
   ·obtain rfl : i = ds.length := by omega
    have hpl := Zkk kk ds ds.length
    obtain ⟨ok1, ok2, ok3⟩ := Zsr (ds.length - 1)
    rw [show ds.length - 1 + 1 = ds.length from by omega] at ok2
    have hle : Zne ds.length ≤ ds.length := by
     exact Zsb _
    generalize hP : Zka kk ds ds.length = P at hpl
    repeat (first
     | ((with_reducible apply Zk); rfl; rfl; (exact (rfl : _ = Value.int _ _)); (exact (rfl : _ = Value.int _ _)); (with_reducible exact Zcj (by omega)))
     | with_reducible refine Za ?_
     | with_reducible refine Zg ?_
     | with_reducible refine Zf ?_
     | with_reducible refine Z9 ?_
     | with_reducible refine Zbh ?_
     | with_reducible refine Zb ?_
     | with_reducible refine Zar ?_
     | with_reducible refine Za0 ?_
     | ((with_reducible apply Zv); rfl)
     | ((with_reducible apply Zaw); rfl))
    refine Zch (fun t : Nat => [dead, dead, pt 1 0, pt 2 0, .func (.func 63) #[] #[pt 2 0]])
     (fun t => [dsR ds, dgB (fun _ => 0), Zqc (slv 3 0 (Zea kk t P).length (Zea kk t P).length), dsB (Zea kk t P)]) (fun t => t + 1 ≤ P.length) (fun t => P.length - t) 0 (by omega) ?_ ?_
    ·subst hP
     refine Zal (n := 4) rfl ?_ rfl rfl
     repeat (first | exact trivial | refine ⟨.inl rfl, ?_⟩ | refine ⟨.inr ⟨rfl, rfl⟩, ?_⟩)
    ·intro t ht
     have hQl := Zic kk (P := P) t ht
     by_cases hlt2 : t + 2 ≤ P.length
     ·generalize hQ : Zea kk t P = Q at hQl
      repeat (first
       | ((with_reducible apply Zct (e := [some (2, 0), some (3, 0)]) (nid := 0) (Zqv kk hG Q (by omega) (by omega))); rfl; rfl; rfl; rfl; rfl; rfl; refine ⟨⟨⟨rfl, rfl⟩, trivial⟩, ⟨Zau rfl rfl rfl rfl, Zau rfl rfl rfl rfl, trivial⟩, rfl, rfl, rfl, Nat.le_refl _⟩; exact (rfl : _ = Value.tuple _); rfl; exact (rfl : _ = _ :: _))
       | ((with_reducible apply Ze); rfl; rfl; (exact (rfl : _ = Value.func _ _ _)))
       | ((with_reducible apply Zk); rfl; rfl; (exact (rfl : _ = Value.int _ _)); (exact (rfl : _ = Value.int _ _)); (with_reducible exact Zet (by omega)))
       | ((with_reducible apply Zl); rfl; rfl; exact (rfl : _ = Value.pointer (some ⟨_, _, _⟩)); (exact (rfl : _ = some (Value.slice _ _ _))))
       | ((with_reducible apply Zbl); rfl; rfl; (exact (rfl : _ = Value.slice _ _ _)); (exact (rfl : _ = some (Value.int _ _))))
       | with_reducible refine Za ?_
       | with_reducible refine Zg ?_
       | with_reducible refine Zf ?_
       | with_reducible refine Z9 ?_
       | with_reducible refine Z2 ?_
       | with_reducible refine Zb ?_
       | with_reducible refine Zab ?_
       | ((with_reducible apply Zz); rfl))
      subst hQ
      refine Zas ⟨t + 1, by omega, by omega, ?_⟩
      refine Zal (n := 4) rfl ?_ rfl rfl
      repeat (first | exact trivial | refine ⟨.inl rfl, ?_⟩ | refine ⟨.inr ⟨rfl, rfl⟩, ?_⟩)
     ·have ht1 : t = P.length - 1 := by omega
      have hQ1 : (Zea kk t P).length = 1 := by omega
      have hroot : (Zea kk t P).getD 0 d0 = Zcd kk ds := by
       unfold Zcd; rw [if_neg h0, hP, ← hpl, ← ht1]
      have hat := Zi0 (Zea kk t P) 0 (by omega)
      rw [hroot] at hat
      have hBl : (dsB (Zea kk t P)).cells.length = 32 := by show (dsC _).length = _; rw [Zb7, hQ1]
      generalize hQ : Zea kk t P = Q at hQl hQ1 hat hBl
      repeat (first
       | ((with_reducible apply Zl); rfl; rfl; exact (rfl : _ = Value.pointer (some ⟨3, _, _⟩)); exact Zcx (n := 32) rfl rfl (by omega) hat)
       | ((with_reducible apply Zbf (j := 0)); rfl; rfl; exact (rfl : _ = Value.slice (some ⟨_, _, _⟩) _ _); (exact (rfl : _ = Value.int _ _)); (exact (rfl : _ = some (_, 32))); omega; omega; omega)
       | ((with_reducible apply Zk); rfl; rfl; (exact (rfl : _ = Value.int _ _)); (exact (rfl : _ = Value.int _ _)); (with_reducible exact Zej (by omega)))
       | ((with_reducible apply Zl); rfl; rfl; exact (rfl : _ = Value.pointer (some ⟨_, _, _⟩)); (exact (rfl : _ = some (Value.slice _ _ _))))
       | ((with_reducible apply Zbl); rfl; rfl; (exact (rfl : _ = Value.slice _ _ _)); (exact (rfl : _ = some (Value.int _ _))))
       | ((with_reducible apply Zx); rfl; exact (rfl : _ = Value.pointer (some ⟨_, _, _⟩)); (exact (rfl : _ = Value.agg _)); (rfl); exact (rfl : _ = _ :: _))
       | with_reducible refine Za ?_
       | with_reducible refine Zg ?_
       | with_reducible refine Zf ?_
       | with_reducible refine Zbh ?_
       | with_reducible refine Zt ?_
       | with_reducible refine Zb ?_
       | with_reducible refine Zar ?_
       | with_reducible refine Za0 ?_
       | ((with_reducible apply Zv); rfl)
       | ((with_reducible apply Zaw); rfl))
      refine Zu ?_
      refine Zm (v := dgV (Zcd kk ds)) rfl rfl rfl ?_ ?_
      ·simp [Za9, dsR]
      ·exact Zcr (Zb0 fun _ => rfl) rfl
end Go.Flat
end
section
namespace Go.Flat
open Go.Proofs
variable {G : Glob}
def Z6b (us vs : List D) : Bool := us.length == vs.length && (List.range us.length).all fun i => Za6 32 (us.getD i d0) (vs.getD i d0)
end Go.Flat
end
section
namespace Go.Flat
open Go.Proofs
variable {G : Glob}
theorem Z21 (Q : List D) (i : Nat) (d : D) (h : i < Q.length) : splice (dsC Q) (i * 32) (Zac w8 32 d) = dsC (Q.set i d) := by
 have e : Q = Q.take i ++ Q[i] :: Q.drop (i + 1) := by rw [← List.drop_eq_getElem_cons h, List.take_append_drop]
 have hl : (Q.take i).length = i := by simp; omega
 have h1 : (dsC Q).take (i * 32) = dsC (Q.take i) := by
  have := Zqi (Q.take i) (Q[i] :: Q.drop (i + 1))
  rw [← e, hl] at this; exact this
 have h2 : (dsC Q).drop (i * 32 + 32) = dsC (Q.drop (i + 1)) := by
  have := Zow (Q.take (i + 1)) (Q.drop (i + 1))
  rw [List.take_append_drop] at this
  rw [show (Q.take (i + 1)).length = i + 1 from by simp; omega] at this
  rw [← this]; congr 1; omega
 unfold splice
 rw [h1, Zbs, h2, List.set_eq_take_append_cons_drop, if_pos h, Zi8, Zg8, List.append_assoc]
theorem Zib {P : Program} {t : TypeId} {H : List Blk} {b o i : Nat} {blk : Blk} {Q : List D} {d : D} (hk : Zey P t = some (true, 32)) (hb : H[b]? = some blk) (hw : blk.wr = true) (hc : blk.cells = dsC Q) (hi : i < Q.length) (ho : o = i * 32) :
  Zfh P t H (.pointer (some ⟨b, o, none⟩)) (dgV d) = some (b, { blk with cells := dsC (Q.set i d) }) := by
 subst ho
 unfold Zfh
 rw [hk]
 simp only [hb, Option.bind_some, hw, hc]
 rw [if_pos]
 ·have e : (dgV d).cells.toList = Zac w8 32 d := rfl
  rw [e, Z21 Q i d hi]
 ·have h1 : (Zac w8 32 d).all Zbk = true := Zq3 d
  have h2 : (Zac w8 32 d).all Zio = true := Zqd fun _ => rfl
  simp only [Bool.true_and, Bool.and_eq_true, decide_eq_true_eq, beq_iff_eq, Zb7]
  refine ⟨⟨by show (Zac w8 32 d).toArray.size = 32; simp [Zbs], ?_⟩, by omega⟩
  show Zdm blk.pur (Zac w8 32 d) = true
  unfold Zdm
  split
  ·exact h1
  ·exact h2
def Zjm (P : List D) : Nat → List D
  | 0 => P
  | i + 1 => ((Zjm P i).set i ((Zjm P i).getD (P.length - 1 - i) d0)).set (P.length - 1 - i) ((Zjm P i).getD i d0)
theorem Zlz (P : List D) : ∀ i, (Zjm P i).length = P.length
 | 0 => rfl
 | i + 1 => by simp [Zjm, Zlz P i]
def dsM (b : Bool) (ds : List D) : Blk := { cells := dsC ds, sz := 32, wr := true, fix := false, mv := b, pur := true }
set_option maxHeartbeats 4000000 in
theorem Zud (b : Bool) (P : List D) (c : Nat) (hn : P.length ≤ 1000000) :
  Zae Tryd.prog G 67 [slv 0 0 P.length c] [dsM b P] (.tuple #[]) [dsM b (Zjm P (P.length / 2))] := by
 refine Zbj (fn := Tryd.f67) (nt := 28) rfl rfl rfl rfl ?_
 repeat (first
  | ((with_reducible apply Ze); rfl; rfl; (exact (rfl : _ = Value.slice _ _ _)))
  | ((with_reducible apply Zc); rfl; rfl; (exact (rfl : _ = Value.int _ _)))
  | ((with_reducible apply Zk); rfl; rfl; (exact (rfl : _ = Value.int _ _)); (exact (rfl : _ = Value.int _ _)); (with_reducible exact Zde rfl (by omega) (by omega)))
  | ((with_reducible apply Zbl); rfl; rfl; (exact (rfl : _ = Value.slice _ _ _)); (exact (rfl : _ = some (Value.int _ _))))
  | with_reducible refine Za ?_
  | with_reducible refine Zg ?_
  | with_reducible refine Zf ?_
  | with_reducible refine Z9 ?_
  | with_reducible refine Zb ?_)
 refine Zch (fun i : Nat => [slv 0 0 P.length c, dead, Iv (i : Nat), Iv ((P.length : Int) - 1 - i)]) (fun i => [dsM b (Zjm P i)]) (fun i => i ≤ P.length / 2) (fun i => P.length - i) 0 (by omega) ?_ ?_
 ·refine Zal (n := 1) rfl ?_ rfl ?_
  ·refine ⟨.inr ⟨rfl, rfl⟩, .inl rfl, .inr ⟨rfl, rfl⟩, .inr ⟨?_, rfl⟩, trivial⟩
   show Value.int .i64 ((P.length : Int) - 1 - (0 : Nat)) = Value.int .i64 ((P.length : Int) - 1)
   congr 1; omega
  ·simp [dsM]
 ·intro i hi
  have hQl := Zlz P i
  by_cases hlt : (i : Int) < (P.length : Int) - 1 - i
  ·have hQc : (dsM b (Zjm P i)).cells.length = P.length * 32 := by show (dsC _).length = _; rw [Zb7, hQl]
   have hati := Zi0 (Zjm P i) i (by omega)
   have hatj := Zi0 (Zjm P i) (P.length - 1 - i) (by omega)
   generalize hQ : Zjm P i = Q at hQl hQc hati hatj
   repeat (first
    | ((with_reducible apply Zl); rfl; rfl; exact (rfl : _ = Value.pointer (some ⟨_, _, _⟩)); first | exact Zcx (n := 32) rfl rfl (by omega) hati | exact Zcx (n := 32) rfl rfl (by omega) hatj)
    | ((with_reducible apply Zx); rfl; exact (rfl : _ = Value.pointer (some ⟨_, _, _⟩)); exact (rfl : _ = Value.agg _); (first
    | exact Zib (d := Q.getD (P.length - 1 - i) d0) (i := i) (Q := Q) rfl rfl rfl rfl (by omega) rfl
    | exact Zib (d := Q.getD i d0) (i := P.length - 1 - i) (Q := Q.set i (Q.getD (P.length - 1 - i) d0)) rfl rfl rfl rfl (by simp; omega) rfl); exact (rfl : _ = _ :: _))
    | ((with_reducible apply Zbf (j := i * 32)); rfl; rfl; exact (rfl : _ = Value.slice (some ⟨_, _, _⟩) _ _); (exact (rfl : _ = Value.int _ _)); (exact (rfl : _ = some (_, 32))); omega; omega; omega)
    | ((with_reducible apply Zbf (j := (P.length - 1 - i) * 32)); rfl; rfl; exact (rfl : _ = Value.slice (some ⟨_, _, _⟩) _ _); (exact (rfl : _ = Value.int _ _)); (exact (rfl : _ = some (_, 32))); omega; omega; omega)
    | ((with_reducible apply Ze); rfl; rfl; (first
    | exact (rfl : _ = Value.int _ _)
    | exact (rfl : _ = Value.slice _ _ _)))
    | ((with_reducible apply Zc); rfl; rfl; (exact (rfl : _ = Value.int _ _)))
    | ((with_reducible apply Zk); rfl; rfl; (exact (rfl : _ = Value.int _ _)); (exact (rfl : _ = Value.int _ _)); (first
    | with_reducible exact Zcq (by omega)
    | with_reducible exact Zaz rfl (by omega) (by omega)
    | with_reducible exact Zde rfl (by omega) (by omega)))
    | with_reducible refine Za ?_
    | with_reducible refine Zg ?_
    | with_reducible refine Zf ?_
    | with_reducible refine Z9 ?_
    | with_reducible refine Z2 ?_
    | with_reducible refine Zb ?_
    | with_reducible refine Zab ?_
    | (with_reducible refine Zcu (by kernel_rfl) ?_)
    | (with_reducible refine Zdu (by kernel_rfl) ?_)
    | ((with_reducible apply Zz); rfl))
   subst hQ
   refine Zas ⟨i + 1, by omega, by omega, ?_⟩
   refine Zal (n := 1) rfl ?_ rfl ?_
   ·refine ⟨.inr ⟨rfl, rfl⟩, .inl rfl, .inr ⟨rfl, rfl⟩, .inr ⟨?_, rfl⟩, trivial⟩
    show Value.int .i64 ((P.length : Int) - 1 - ((i + 1 : Nat) : Int)) = Value.int .i64 ((P.length : Int) - 1 - i - 1)
    congr 1; omega
   ·simp [dsM]
  ·have hie : i = P.length / 2 := by omega
   subst hie
   repeat (first
    | ((with_reducible apply Ze); rfl; rfl; (exact (rfl : _ = Value.int _ _)))
    | ((with_reducible apply Zk); rfl; rfl; (exact (rfl : _ = Value.int _ _)); (exact (rfl : _ = Value.int _ _)); (with_reducible exact Zcj (by omega)))
    | with_reducible refine Za ?_
    | with_reducible refine Zg ?_
    | with_reducible refine Zf ?_
    | with_reducible refine Zbh ?_
    | with_reducible refine Zb ?_
    | with_reducible refine Zar ?_
    | with_reducible refine Za0 ?_
    | ((with_reducible apply Zv); rfl)
    | ((with_reducible apply Zaw); rfl))
   refine Zj0 ?_
   refine Zm (v := .tuple #[]) rfl rfl rfl ?_ trivial
   simp [Za9, dsM]
end Go.Flat
end
section
namespace Go.Flat
open Go.Proofs
variable {G : Glob}
def Zfn (kk : Nat → BitVec 32) (f : Nat) (l : List D) (i : Nat) (down : List D) : List D :=
  match f with
  | 0 => down
  | f + 1 => if l.length ≤ 1 then down else
      let k := (Zdz l.length).toNat
      if i < k then Zfn kk f (l.take k) i (down ++ [Zcd kk (l.drop k)]) else Zfn kk f (l.drop k) (i - k) (down ++ [Zcd kk (l.take k)])
theorem Zfj {n : Nat} (h : 2 ≤ n) : 1 ≤ (Zdz n).toNat ∧ (Zdz n).toNat < n ∧ Zdz n = ((Zdz n).toNat : Int) := by
 unfold Zdz
 rw [if_neg (by omega)]
 have hb : ((n : Int) - 1).toNat = n - 1 := by omega
 rw [hb]
 have h0 : n - 1 ≠ 0 := by omega
 have e : Za2 (n - 1) - 1 = (n - 1).log2 := by unfold Za2; rw [if_neg h0]; rfl
 rw [e]
 have h1 := Nat.log2_self_le h0
 have h2 : (2 : Int) ^ (n - 1).log2 = ((2 ^ (n - 1).log2 : Nat) : Int) := by simp
 have h3 : 0 < 2 ^ (n - 1).log2 := Nat.pow_pos (by decide)
 rw [h2, Int.toNat_natCast]
 refine ⟨h3, by omega, rfl⟩
theorem Zih (ds : List D) : (([dsR ds] : List Blk).all (Za9 ([dsR ds] : List Blk).length)) = true := by simp [Za9, dsR]
set_option maxHeartbeats 4000000 in
theorem Zqq (ds : List D) (c : Nat) (i : Int) (h : i < 0 ∨ (ds.length : Int) ≤ i) :
  Zae Tryd.prog G 46 [slv 0 0 ds.length c, Iv i] [dsR ds] (.tuple #[Zz3, Iv 20]) [dsR ds] := by
 refine Zbj (fn := Tryd.f46) (nt := 51) rfl rfl rfl rfl ?_
 by_cases h1 : i < 0
 repeat (first
  | ((with_reducible apply Ze); rfl; rfl; (first
  | exact (rfl : _ = Value.int _ _)
  | exact (rfl : _ = Value.bool _)))
  | ((with_reducible apply Zc); rfl; rfl; (first
  | exact (rfl : _ = Value.int _ _)
  | exact (rfl : _ = Value.slice _ _ _)))
  | ((with_reducible apply Zk); rfl; rfl; (exact (rfl : _ = Value.int _ _)); (exact (rfl : _ = Value.int _ _)); (with_reducible exact Zcq (by omega)))
  | ((with_reducible apply Zo); rfl; rfl; (exact (rfl : _ = some (Value.bool _))))
  | ((with_reducible apply Zj); rfl; rfl)
  | with_reducible refine Za ?_
  | with_reducible refine Zg ?_
  | with_reducible refine Zf ?_
  | with_reducible refine Zt ?_
  | with_reducible refine Zb ?_
  | with_reducible refine Z3 ?_
  | ((with_reducible apply Zz); rfl))
 refine Zu ?_
 exact Zm (v := .tuple #[Zz3, Iv 20]) rfl rfl rfl (Zih ds) ⟨rfl, rfl, trivial⟩
 repeat (first
  | ((with_reducible apply Ze); rfl; rfl; (first
  | exact (rfl : _ = Value.int _ _)
  | exact (rfl : _ = Value.bool _)
  | exact (rfl : _ = Value.slice _ _ _)))
  | ((with_reducible apply Zc); rfl; rfl; (first
  | exact (rfl : _ = Value.int _ _)
  | exact (rfl : _ = Value.slice _ _ _)))
  | ((with_reducible apply Zk); rfl; rfl; (exact (rfl : _ = Value.int _ _)); (exact (rfl : _ = Value.int _ _)); (first
  | with_reducible exact Zcj (by omega)
  | with_reducible exact Zgm (by omega)))
  | ((with_reducible apply Zo); rfl; rfl; (exact (rfl : _ = some (Value.bool _))))
  | ((with_reducible apply Zbl); rfl; rfl; (exact (rfl : _ = Value.slice _ _ _)); (exact (rfl : _ = some (Value.int _ _))))
  | with_reducible refine Za ?_
  | with_reducible refine Zg ?_
  | with_reducible refine Zf ?_
  | with_reducible refine Zt ?_
  | with_reducible refine Zb ?_
  | with_reducible refine Z3 ?_
  | ((with_reducible apply Zz); rfl))
 refine Zu ?_
 exact Zm (v := .tuple #[Zz3, Iv 20]) rfl rfl rfl (Zih ds) ⟨rfl, rfl, trivial⟩
end Go.Flat
end
section
namespace Go.Flat
open Go.Proofs
variable {G : Glob}
def sub (ds : List D) (o m : Nat) : List D := (ds.drop o).take m
theorem Zdf {ds : List D} {o m : Nat} (h : o + m ≤ ds.length) : (sub ds o m).length = m := by simp [sub]; omega
theorem Zt8 {ds : List D} {o m k : Nat} (h : k ≤ m) : (sub ds o m).take k = sub ds o k := by simp [sub, List.take_take, Nat.min_eq_left h]
theorem Ztz {ds : List D} {o m k : Nat} : (sub ds o m).drop k = sub ds (o + k) (m - k) := by simp [sub, List.drop_take]
theorem Zrv {ds : List D} {o m : Nat} (h : o + m ≤ ds.length) : ((dsC ds).drop (o * 32)).take (m * 32) = dsC (sub ds o m) := by
 have e : ds = ds.take o ++ ds.drop o := (List.take_append_drop o ds).symm
 have h1 := Zow (ds.take o) (ds.drop o)
 rw [← e, show (ds.take o).length = o from by simp; omega] at h1
 rw [h1]
 have h2 := Zqi ((ds.drop o).take m) ((ds.drop o).drop m)
 rw [List.take_append_drop, show ((ds.drop o).take m).length = m from by simp; omega] at h2
 exact h2
theorem Z3u (ds : List D) : sub ds 0 ds.length = ds := by simp [sub]
structure IncS where
  o : Nat
  m : Nat
  cap : Nat
  i : Nat
  f : Nat
  down : List D
set_option maxHeartbeats 8000000 in
theorem Zsk (kk : Nat → BitVec 32) (hG : G 0 = some (Zac w32 64 kk)) (hG1 : G 2 = some (Zac u8N 64 dbF)) (ds : List D) (c i : Nat) (hn : ds.length ≤ 1000000) (hc : ds.length ≤ c) (hi : i < ds.length) :
  let down := Zfn kk ds.length ds i []
  Zae Tryd.prog G 46 [slv 0 0 ds.length c, Iv (i : Nat)] [dsR ds] (.tuple #[slv 1 0 down.length down.length, Iv 0]) [dsR ds, dsB (Zjm down (down.length / 2))] := by
 intro down
 refine Zbj (fn := Tryd.f46) (nt := 51) rfl rfl rfl rfl ?_
 repeat (first
  | ((with_reducible apply Ze); rfl; rfl; (first
  | exact (rfl : _ = Value.int _ _)
  | exact (rfl : _ = Value.bool _)
  | exact (rfl : _ = Value.slice _ _ _)))
  | ((with_reducible apply Zc); rfl; rfl; (first
  | exact (rfl : _ = Value.int _ _)
  | exact (rfl : _ = Value.slice _ _ _)))
  | ((with_reducible apply Zk); rfl; rfl; (exact (rfl : _ = Value.int _ _)); (exact (rfl : _ = Value.int _ _)); (first
  | with_reducible exact Zcj (by omega)
  | with_reducible exact Zgl (by omega)))
  | ((with_reducible apply Zo); rfl; rfl; (exact (rfl : _ = some (Value.bool _))))
  | ((with_reducible apply Zbl); rfl; rfl; (exact (rfl : _ = Value.slice _ _ _)); (exact (rfl : _ = some (Value.int _ _))))
  | with_reducible refine Za ?_
  | with_reducible refine Zg ?_
  | with_reducible refine Zf ?_
  | with_reducible refine Z9 ?_
  | with_reducible refine Z2 ?_
  | with_reducible refine Zb ?_
  | ((with_reducible apply Zv); rfl))
 refine Zb4 (Zbz.nilTmp (i := 6) (b := 1) true 32 rfl (by decide) rfl) ?_
 refine Zch (fun x : IncS => [slv 0 (x.o * 32) x.m x.cap, Iv (x.i : Nat), dead, dead, dead, dead, slv 1 0 x.down.length x.down.length]) (fun x => [dsR ds, dsB x.down])
  (fun x => x.o + x.m ≤ ds.length ∧ x.m ≤ x.cap ∧ x.i < x.m ∧ x.down.length + x.m ≤ ds.length ∧ x.m ≤ x.f + 1 ∧ Zfn kk x.f (sub ds x.o x.m) x.i x.down = down) (fun x => x.m) ⟨0, ds.length, c, i, ds.length, []⟩ ⟨by simp, hc, hi, by simp, by simp, by rw [Z3u]⟩ ?_ ?_
 ·refine Zal (n := 2) rfl ?_ rfl ?_
  repeat (first | exact trivial | refine ⟨.inl rfl, ?_⟩ | refine ⟨.inr ⟨rfl, rfl⟩, ?_⟩)
  ·simp [dsR, dsB]
 ·rintro ⟨o, m, cap, i, f, dn⟩ ⟨h1, h2, h3, h4, h5, h6⟩
  dsimp only at h1 h2 h3 h4 h5 h6 ⊢
  have hDc : (dsB dn).cells.length = dn.length * 32 := Zb7 dn
  by_cases hm : 1 < m
  ·obtain ⟨s1, s2, s3⟩ := Zfj (n := m) (by omega)
   have hS := Zo8 (G := G) (m : Int) (by omega)
   rw [s3] at hS
   generalize hk : (Zdz (m : Int)).toNat = k at hS s1 s2
   by_cases hik : i < k
   ·have hR := Zsz (G := G) kk hG hG1 (sub ds (o + k) (m - k)) (cap - k) (by rw [Zdf (by omega)]; omega) (by rw [Zdf (by omega)]; omega)
    rw [Zdf (by omega)] at hR
    have hE1 : (o + k) * 32 + (dsR (sub ds (o + k) (m - k))).cells.length ≤ (dsR ds).cells.length := by
     show _ + (dsC _).length ≤ (dsC _).length
     rw [Zb7, Zb7, Zdf (by omega)]; omega
    have hE2 : ((dsR ds).cells.drop ((o + k) * 32)).take (dsR (sub ds (o + k) (m - k))).cells.length = Zcp [some (0, (o + k) * 32)] (dsR (sub ds (o + k) (m - k))) := by
     show ((dsC ds).drop ((o + k) * 32)).take (dsC (sub ds (o + k) (m - k))).length = dsC (sub ds (o + k) (m - k))
     rw [Zb7, Zdf (by omega)]
     exact Zrv (by omega)
    have hcat : List.take (dn.length * 32) (List.drop 0 (dsC dn)) ++ Zac w8 32 (Zcd kk (sub ds (o + k) (m - k))) = dsC (dn ++ [Zcd kk (sub ds (o + k) (m - k))]) := by
     rw [List.drop_zero, List.take_of_length_le (by rw [Zb7]; exact Nat.le_refl _), Zi8, Zg8]; simp [dsC]
    have hl1 : (dn ++ [Zcd kk (sub ds (o + k) (m - k))]).length = dn.length + 1 := by simp
    obtain ⟨f, rfl⟩ : ∃ f', f = f' + 1 := ⟨f - 1, by omega⟩
    refine Zaj 1 (H' := [dsR ds, dsB dn, hole]) rfl ?_
    repeat (first
     | ((with_reducible apply Zdd); rfl; rfl; exact (rfl : _ = Value.slice (some ⟨_, _, _⟩) _ _); rfl; rfl; first | exact Zie (h := k) rfl rfl rfl (by omega) rfl | exact Zpg (l := k) (sz := 32) (j := (o + k) * 32) (m := m - k) (c' := cap - k) rfl rfl rfl rfl (by omega) (by omega) rfl (by omega) (by omega) (by omega))
     | ((with_reducible apply Z4 (e := [some (0, (o + k) * 32)]) (nid := 0) hR); rfl; rfl; rfl; rfl; rfl; rfl; rfl; refine ⟨⟨⟨rfl, rfl, rfl, Nat.le_refl _, by omega⟩, trivial⟩, ⟨Zcg rfl rfl hE1 hE2, trivial⟩, rfl, rfl, rfl⟩; exact (rfl : _ = Value.agg _); exact (rfl : _ = _ :: _))
     | ((with_reducible apply Zda (nid := 2)); rfl; rfl; rfl; exact (rfl : _ = some (Value.slice _ _ _, _)); exact (rfl : _ = _ :: _))
     | ((with_reducible apply Zcv); rfl; rfl; rfl; exact .inl ⟨_, rfl⟩; exact (rfl : _ = Value.slice (some ⟨_, _, _⟩) _ _); exact (rfl : _ = Value.slice (some ⟨_, _, _⟩) _ _); exact Zen (n' := (dn ++ [Zcd kk (sub ds (o + k) (m - k))]).length) (rfl : _ = some (32, _, 32)) (rfl : _ = some (1, _)) rfl rfl rfl rfl rfl (by rw [hDc]; omega) (by decide) hl1.symm (by omega); rfl; exact (rfl : _ = _ :: _))
     | ((with_reducible apply Ze); rfl; rfl; (first
     | exact (rfl : _ = Value.int _ _)
     | exact (rfl : _ = Value.slice _ _ _)))
     | ((with_reducible apply Zc); rfl; rfl; (first
     | exact (rfl : _ = Value.int _ _)
     | exact (rfl : _ = Value.slice _ _ _)))
     | ((with_reducible apply Zk); rfl; rfl; (exact (rfl : _ = Value.int _ _)); (exact (rfl : _ = Value.int _ _)); (first
     | with_reducible exact Zcq (by omega)
     | with_reducible exact Zet (by omega)))
     | ((with_reducible apply Zbl); rfl; rfl; (exact (rfl : _ = Value.slice _ _ _)); (exact (rfl : _ = some (Value.int _ _))))
     | ((with_reducible apply Zq (hS)); rfl; rfl; rfl; rfl; rfl; (exact (rfl : _ = Value.int _ _)))
     | with_reducible refine Za ?_
     | with_reducible refine Zg ?_
     | with_reducible refine Zf ?_
     | with_reducible refine Z9 ?_
     | with_reducible refine Z2 ?_
     | with_reducible refine Zb ?_
     | with_reducible refine Zab ?_
     | ((with_reducible apply Zz); rfl))
    refine Zas ⟨⟨o, k, cap, i, f, dn ++ [Zcd kk (sub ds (o + k) (m - k))]⟩, ⟨?_, ?_, ?_, ?_, ?_, ?_⟩, ?_, ?_⟩ <;> dsimp only
    ·omega
    ·omega
    ·omega
    ·rw [hl1]; omega
    ·omega
    ·rw [← h6]
     have hsl := Zdf (ds := ds) (o := o) (m := m) h1
     conv => rhs; unfold Zfn
     rw [if_neg (by omega)]
     simp only [hsl, hk]
     rw [if_pos hik, Zt8 (by omega), Ztz]
    ·omega
    ·refine Zal (n := 2) rfl ?_ ?_ ?_
     ·refine ⟨.inr ⟨?_, rfl⟩, .inr ⟨?_, rfl⟩, .inl rfl, .inl rfl, .inl rfl, .inl rfl, .inr ⟨rfl, rfl⟩, trivial⟩
      ·rfl
      ·first | rfl | (show Value.int .i64 ((i - k : Nat) : Int) = Value.int .i64 ((i : Int) - k); congr 1; omega)
     ·exact congrArg (fun q => [dsR ds, ({ cells := q, sz := 32, wr := true, fix := false, mv := true, pur := true } : Blk)]) hcat
     ·simp [dsR, dsB]
   ·have hR := Zsz (G := G) kk hG hG1 (sub ds (o) (k)) (cap) (by rw [Zdf (by omega)]; omega) (by rw [Zdf (by omega)]; omega)
    rw [Zdf (by omega)] at hR
    have hE1 : (o) * 32 + (dsR (sub ds (o) (k))).cells.length ≤ (dsR ds).cells.length := by
     show _ + (dsC _).length ≤ (dsC _).length
     rw [Zb7, Zb7, Zdf (by omega)]; omega
    have hE2 : ((dsR ds).cells.drop ((o) * 32)).take (dsR (sub ds (o) (k))).cells.length = Zcp [some (0, (o) * 32)] (dsR (sub ds (o) (k))) := by
     show ((dsC ds).drop ((o) * 32)).take (dsC (sub ds (o) (k))).length = dsC (sub ds (o) (k))
     rw [Zb7, Zdf (by omega)]
     exact Zrv (by omega)
    have hcat : List.take (dn.length * 32) (List.drop 0 (dsC dn)) ++ Zac w8 32 (Zcd kk (sub ds (o) (k))) = dsC (dn ++ [Zcd kk (sub ds (o) (k))]) := by
     rw [List.drop_zero, List.take_of_length_le (by rw [Zb7]; exact Nat.le_refl _), Zi8, Zg8]; simp [dsC]
    have hl1 : (dn ++ [Zcd kk (sub ds (o) (k))]).length = dn.length + 1 := by simp
    obtain ⟨f, rfl⟩ : ∃ f', f = f' + 1 := ⟨f - 1, by omega⟩
    refine Zaj 1 (H' := [dsR ds, dsB dn, hole]) rfl ?_
    repeat (first
     | ((with_reducible apply Zdd); rfl; rfl; exact (rfl : _ = Value.slice (some ⟨_, _, _⟩) _ _); rfl; rfl; first | exact Zie (h := k) rfl rfl rfl (by omega) rfl | exact Zpg (l := k) (sz := 32) (j := (o + k) * 32) (m := m - k) (c' := cap - k) rfl rfl rfl rfl (by omega) (by omega) rfl (by omega) (by omega) (by omega))
     | ((with_reducible apply Z4 (e := [some (0, (o) * 32)]) (nid := 0) hR); rfl; rfl; rfl; rfl; rfl; rfl; rfl; refine ⟨⟨⟨rfl, rfl, rfl, Nat.le_refl _, by omega⟩, trivial⟩, ⟨Zcg rfl rfl hE1 hE2, trivial⟩, rfl, rfl, rfl⟩; exact (rfl : _ = Value.agg _); exact (rfl : _ = _ :: _))
     | ((with_reducible apply Zda (nid := 2)); rfl; rfl; rfl; exact (rfl : _ = some (Value.slice _ _ _, _)); exact (rfl : _ = _ :: _))
     | ((with_reducible apply Zcv); rfl; rfl; rfl; exact .inl ⟨_, rfl⟩; exact (rfl : _ = Value.slice (some ⟨_, _, _⟩) _ _); exact (rfl : _ = Value.slice (some ⟨_, _, _⟩) _ _); exact Zen (n' := (dn ++ [Zcd kk (sub ds (o) (k))]).length) (rfl : _ = some (32, _, 32)) (rfl : _ = some (1, _)) rfl rfl rfl rfl rfl (by rw [hDc]; omega) (by decide) hl1.symm (by omega); rfl; exact (rfl : _ = _ :: _))
     | ((with_reducible apply Ze); rfl; rfl; (first
     | exact (rfl : _ = Value.int _ _)
     | exact (rfl : _ = Value.slice _ _ _)))
     | ((with_reducible apply Zc); rfl; rfl; (first
     | exact (rfl : _ = Value.int _ _)
     | exact (rfl : _ = Value.slice _ _ _)))
     | ((with_reducible apply Zk); rfl; rfl; (exact (rfl : _ = Value.int _ _)); (exact (rfl : _ = Value.int _ _)); (first
     | with_reducible exact Zcj (by omega)
     | with_reducible exact Zet (by omega)
     | with_reducible exact Zde rfl (by omega) (by omega)))
     | ((with_reducible apply Zbl); rfl; rfl; (exact (rfl : _ = Value.slice _ _ _)); (exact (rfl : _ = some (Value.int _ _))))
     | ((with_reducible apply Zq (hS)); rfl; rfl; rfl; rfl; rfl; (exact (rfl : _ = Value.int _ _)))
     | with_reducible refine Za ?_
     | with_reducible refine Zg ?_
     | with_reducible refine Zf ?_
     | with_reducible refine Z9 ?_
     | with_reducible refine Z2 ?_
     | with_reducible refine Zb ?_
     | with_reducible refine Zab ?_
     | ((with_reducible apply Zz); rfl)
     | ((with_reducible apply Zv); rfl))
    refine Zas ⟨⟨o + k, m - k, cap - k, i - k, f, dn ++ [Zcd kk (sub ds (o) (k))]⟩, ⟨?_, ?_, ?_, ?_, ?_, ?_⟩, ?_, ?_⟩ <;> dsimp only
    ·omega
    ·omega
    ·omega
    ·rw [hl1]; omega
    ·omega
    ·rw [← h6]
     have hsl := Zdf (ds := ds) (o := o) (m := m) h1
     conv => rhs; unfold Zfn
     rw [if_neg (by omega)]
     simp only [hsl, hk]
     rw [if_neg hik, Zt8 (by omega), Ztz]
    ·omega
    ·refine Zal (n := 2) rfl ?_ ?_ ?_
     ·refine ⟨.inr ⟨?_, rfl⟩, .inr ⟨?_, rfl⟩, .inl rfl, .inl rfl, .inl rfl, .inl rfl, .inr ⟨rfl, rfl⟩, trivial⟩
      ·rfl
      ·first | rfl | (show Value.int .i64 ((i - k : Nat) : Int) = Value.int .i64 ((i : Int) - k); congr 1; omega)
     ·exact congrArg (fun q => [dsR ds, ({ cells := q, sz := 32, wr := true, fix := false, mv := true, pur := true } : Blk)]) hcat
     ·simp [dsR, dsB]
  ·have hm1 : m = 1 := by omega
   have hdn : down = dn := by
    rw [← h6]
    cases f with
    | zero => rfl
    | succ f => unfold Zfn; rw [if_pos (by rw [Zdf h1]; omega)]
   repeat (first
    | ((with_reducible apply Z4 (e := [some (1, 0)]) (nid := 0) (Zud (G := G) false dn dn.length (by omega))); rfl; rfl; rfl; rfl; rfl; rfl; rfl; refine ⟨⟨⟨rfl, rfl, rfl, Nat.le_refl _, Nat.le_refl _⟩, trivial⟩, ⟨Zau rfl rfl rfl rfl, trivial⟩, rfl, rfl, rfl⟩; exact (rfl : _ = Value.tuple _); exact (rfl : _ = _ :: _))
    | ((with_reducible apply Ze); rfl; rfl; (exact (rfl : _ = Value.slice _ _ _)))
    | ((with_reducible apply Zc); rfl; rfl; (first
    | exact (rfl : _ = Value.int _ _)
    | exact (rfl : _ = Value.slice _ _ _)))
    | ((with_reducible apply Zk); rfl; rfl; (exact (rfl : _ = Value.int _ _)); (exact (rfl : _ = Value.int _ _)); (with_reducible exact Zej (by omega)))
    | ((with_reducible apply Zbl); rfl; rfl; (exact (rfl : _ = Value.slice _ _ _)); (exact (rfl : _ = some (Value.int _ _))))
    | with_reducible refine Za ?_
    | with_reducible refine Zg ?_
    | with_reducible refine Zf ?_
    | with_reducible refine Zbh ?_
    | with_reducible refine Zt ?_
    | with_reducible refine Zb ?_
    | with_reducible refine Zar ?_
    | with_reducible refine Za0 ?_
    | ((with_reducible apply Zv); rfl)
    | ((with_reducible apply Zaw); rfl))
   refine Zu ?_
   rw [hdn]
   refine Zm (v := .tuple #[slv 1 0 dn.length dn.length, Iv 0]) rfl rfl rfl ?_ ?_
   ·simp [Za9, dsR, dsB]
   ·exact ⟨⟨rfl, Nat.zero_add _ ▸ rfl, rfl, Nat.le_refl _, Nat.le_refl _⟩, rfl, trivial⟩
end Go.Flat
end
section
namespace Go.Flat
open Go.Proofs
variable {G : Glob}
end Go.Flat
end
section
namespace Go.Flat
open Go.Proofs
variable {G : Glob}
def Zw3 (kk : Nat → BitVec 32) (f : Nat) (l : List D) (m : Nat) (kn : Bool) (down : List D) : List D :=
  match f with
  | 0 => if kn then down else down ++ [Zcd kk l]
  | f + 1 => if l.length ≤ m then (if kn then down else down ++ [Zcd kk l]) else
      let k := (Zdz l.length).toNat
      if m ≤ k then Zw3 kk f (l.take k) m kn (down ++ [Zcd kk (l.drop k)]) else Zw3 kk f (l.drop k) (m - k) false (down ++ [Zcd kk (l.take k)])
structure ConS where
  o : Nat
  m : Nat
  cap : Nat
  i : Nat
  kn : Bool
  f : Nat
  down : List D
end Go.Flat
end
section
namespace Go.Flat
open Go.Proofs
variable {G : Glob}
end Go.Flat
end
section
namespace Go.Flat
open Go.Proofs
variable {G : Glob}
def dg1 (k : Nat) : D := fun i => if i = 0 then BitVec.ofNat 8 k else 0
theorem Zdh (ds : List D) : ((dsC ds).drop 0).take (dsC ds).length = dsC ds := by simp
theorem Z48 {H : List Blk} {e : Emb} {id : Nat} {ds : List D} (hB : H[id]? = some (dsB ds)) : Zd1 H e (some (id, 0)) (dsR ds) :=
 Zcg hB rfl (by show 0 + (dsC _).length ≤ (dsC _).length; omega) (Zdh _)
theorem Zlf (n : Nat) (a : D) : Za6 n a a = true := by simp [Za6]
end Go.Flat
end
