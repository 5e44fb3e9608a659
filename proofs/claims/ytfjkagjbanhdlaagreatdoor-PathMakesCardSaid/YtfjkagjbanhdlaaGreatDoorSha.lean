/- Walks. -/
import Derived.Test.YtfjkagjbanhdlaaGreatDoorFlatC
import Derived.Test.YtfjkagjbanhdlaaGreatDoorProg
set_option maxRecDepth 20000
set_option linter.unusedVariables false
set_option linter.unusedSimpArgs false
section
namespace Go.Flat
open Go.Proofs
variable {G : Glob}
def rot (x : BitVec 32) (n : Nat) : BitVec 32 := x <<< n ||| x >>> (32 - n)

theorem Z69 (k : Int) : (BitVec.ofInt 64 k &&& BitVec.ofInt 64 31).toNat = (k % 32).toNat := by
 have h31 : (BitVec.ofInt 64 31).toNat = 2 ^ 5 - 1 := rfl
 rw [BitVec.toNat_and, h31, Nat.and_two_pow_sub_one_eq_mod, BitVec.toNat_ofInt]
 omega
theorem Zz5 (x : BitVec 32) (k : Int) : Z6 Tryz.prog G 132 [w32 x, Iv k] [] (w32 (rot x (k % 32).toNat)) [] := by
 refine Za8 (fn := Tryz.f132) (nt := 17) rfl rfl rfl rfl ?_
 repeat (first
  | ((with_reducible apply Zac); rfl; rfl; (exact (rfl : _ = Value.int _ _)))
  | ((with_reducible apply Z3); rfl; rfl; (exact (rfl : _ = Value.int _ _)))
  | ((with_reducible apply Zl); rfl; rfl; (exact (rfl : _ = Value.int _ _)); (exact (rfl : _ = Value.int _ _)); (first
  | with_reducible exact Z7k (by first | exact ofI _ _ | rfl) (by first | exact ofI _ _ | rfl)
  | with_reducible exact Z4w (by first | exact ofI _ _ | rfl) (by omega)
  | with_reducible exact Zsf (by omega)
  | with_reducible exact Z7e (by first | exact ofI _ _ | rfl) (by first | exact ofI _ _ | rfl)
  | with_reducible exact sub64 (by first | exact ofI _ _ | rfl) (by first | exact ofI _ _ | rfl)))
  | ((with_reducible apply Zc6); rfl; rfl; (exact (rfl : _ = Value.int _ _)); (exact Zr0 rfl rfl (by first | exact Zet _ | rfl)))
  | with_reducible refine Za ?_
  | with_reducible refine Zg ?_
  | with_reducible refine Zf ?_
  | with_reducible refine Zq ?_
  | with_reducible refine Zc ?_)
 refine Zr ?_
 refine Zd0 (v := .int _ _) rfl rfl ?_
 have h2 : (BitVec.ofInt 64 32 - (BitVec.ofInt 64 k &&& BitVec.ofInt 64 31)).toNat = 32 - (k % 32).toNat := by
  have h3 := Z69 k
  have h32 : (BitVec.ofInt 64 32).toNat = 32 := rfl
  rw [BitVec.toNat_sub, h3, h32]
  omega
 simp only [Int.toNat_natCast, h2, Z69, rot]
def Zla (x : BitVec 32) (a b : Int) (z : BitVec 32) : BitVec 32 := rot x ((0 - a) % 32).toNat ^^^ rot x ((0 - b) % 32).toNat ^^^ z
theorem Zob (x : BitVec 32) (a b : Int) (z : BitVec 32) (ha : 0 ≤ a ∧ a ≤ 32) (hb : 0 ≤ b ∧ b ≤ 32) : Z6 Tryz.prog G 131 [w32 x, Iv a, Iv b, w32 z] [] (w32 (Zla x a b z)) [] := by
 refine Za8 (fn := Tryz.f131) (nt := 20) rfl rfl rfl rfl ?_
 repeat (first
  | ((with_reducible apply Zac); rfl; rfl; (exact (rfl : _ = Value.int _ _)))
  | ((with_reducible apply Z3); rfl; rfl; (exact (rfl : _ = Value.int _ _)))
  | ((with_reducible apply Zl); rfl; rfl; (exact (rfl : _ = Value.int _ _)); (exact (rfl : _ = Value.int _ _)); (with_reducible exact Zvt (by first | exact ofI _ _ | rfl) (by first | exact ofI _ _ | rfl)))
  | ((with_reducible apply Zg5); rfl; rfl; (exact (rfl : _ = Value.int _ _)); (exact Z7u rfl (by omega) (by omega)))
  | ((with_reducible apply Zo (Zz5 _ _)); rfl; rfl; rfl; rfl; rfl; (exact (rfl : _ = Value.int _ _)))
  | with_reducible refine Za ?_
  | with_reducible refine Zg ?_
  | with_reducible refine Zf ?_
  | with_reducible refine Zq ?_
  | with_reducible refine Zc ?_)
 refine Zr ?_
 exact Zd0 (v := .int _ _) rfl rfl rfl
end Go.Flat
end
section
namespace Go.Flat
open Go.Proofs
variable {G : Glob}
def inB (w : Nat → BitVec 32) (i : Nat) (x : BitVec 8) : Nat → BitVec 32 := Zfg w (i / 4) (w (i / 4) <<< 8 ||| x.setWidth 32)
def Zj4 (b : Nat → BitVec 8) : Nat → Nat → BitVec 32
  | 0 => fun _ => 0
  | i + 1 => inB (Zj4 b i) i (b i)
def Z39 (k : BitVec 32) (v w : Nat → BitVec 32) (t : Nat) : BitVec 32 := v 7 + Zla (v 4) 6 11 (rot (v 4) ((-25 : Int) % 32).toNat) + (v 6 ^^^ (v 4 &&& (v 5 ^^^ v 6))) + k + w (t % 16)
def Z3a (v : Nat → BitVec 32) : BitVec 32 := Zla (v 0) 2 13 (rot (v 0) ((-22 : Int) % 32).toNat) + ((v 0 &&& v 1) ^^^ (v 0 &&& v 2) ^^^ (v 1 &&& v 2))
def Zrx (p q : BitVec 32) (v : Nat → BitVec 32) : Nat → BitVec 32 := fun k => if k = 0 then p + q else if k = 4 then v 3 + p else v (k - 1)
def Z68 (w : Nat → BitVec 32) (t : Nat) : Nat → BitVec 32 := Zfg w (t % 16) (w (t % 16) + (w ((t + 9) % 16) + Zla (w ((t + 1) % 16)) 7 18 (w ((t + 1) % 16) >>> 3) + Zla (w ((t + 14) % 16)) 17 19 (w ((t + 14) % 16) >>> 10)))
def Zn7 (kk : Nat → BitVec 32) (v w : Nat → BitVec 32) : Nat → (Nat → BitVec 32) × (Nat → BitVec 32)
  | 0 => (v, w)
  | t + 1 => let p := Zn7 kk v w t; (Zrx (Z39 (kk t) p.1 p.2 t) (Z3a p.1) p.1, Z68 p.2 t)
def Zva (v V : Nat → BitVec 32) : Nat → Nat → BitVec 32
  | 0 => v
  | i + 1 => Zfg (Zva v V i) i (Zva v V i i + V i)
def Z4p (kk : Nat → BitVec 32) (v : Nat → BitVec 32) (b : Nat → BitVec 8) : Nat → BitVec 32 := Zva v (Zn7 kk v (Zj4 b 64) 64).1 8

abbrev pt (b o : Nat) : Value := .pointer (some ⟨b, o, none⟩)
abbrev sl (b o n c : Nat) : Value := .slice (some ⟨b, o, none⟩) n c
def stB (v : Nat → BitVec 32) (r n : Value) : Blk := { cells := Zag w32 8 v ++ [r, n], sz := 10, wr := true, fix := true, mv := false, pur := false }
def byB (n : Nat) (b : Nat → BitVec 8) : Blk := { cells := Zag w8 n b, sz := 1, wr := false, fix := false, mv := true, pur := true }
def wB (w : Nat → BitVec 32) : Blk := { cells := Zag w32 16 w, sz := 16, wr := true, fix := true, mv := false, pur := true }
def vB (v : Nat → BitVec 32) : Blk := { cells := Zag w32 8 v, sz := 8, wr := true, fix := true, mv := false, pur := true }

set_option maxHeartbeats 4000000 in
theorem Z26 (kk : Nat → BitVec 32) (hG : G 3 = some (Zag w32 64 kk)) (v : Nat → BitVec 32) (b : Nat → BitVec 8) (m c c' : Nat) (n : BitVec 64) :
  Z6 Tryz.prog G 127 [pt 0 0, sl 1 0 64 c'] [stB v (sl 1 0 m c) (w64 n), byB 64 b] (.tuple #[]) [stB (Z4p kk v b) (sl 1 0 m c) (w64 n), byB 64 b] := by
 refine Za8 (fn := Tryz.f127) (nt := 156) rfl rfl rfl rfl ?_
 refine Zaa 2 (H' := [stB v (sl 1 0 m c) (w64 n), byB 64 b, hole, hole]) rfl ?_
 repeat (first
  | ((with_reducible apply Zac); rfl; rfl; (first
  | exact (rfl : _ = Value.int _ _)
  | exact (rfl : _ = Value.slice _ _ _)))
  | ((with_reducible apply Zdm); rfl; rfl; (exact (rfl : _ = Value.slice _ _ _)); (exact (rfl : _ = some (Value.int _ _))))
  | ((with_reducible apply Zbs (nid := 2)); rfl; rfl; rfl; exact (rfl : _ = _ :: _))
  | with_reducible refine Za ?_
  | with_reducible refine Zg ?_
  | with_reducible refine Zf ?_
  | with_reducible refine Z1 ?_
  | with_reducible refine Zc ?_)
 refine Zbg (fun i => [pt 0 0, sl 1 0 64 c', dead, dead, pt 2 0] ++ List.replicate 13 dead ++ [sl 1 0 64 c', Iv 64, Iv (i : Nat)]) (fun i : Nat => [stB v (sl 1 0 m c) (w64 n), byB 64 b, wB (Zj4 b i), hole]) (fun i => i ≤ 64) (fun i => 64 - i) 0 (by omega) ?_ ?_
 ·refine Z5 (n := 4) rfl ?_ rfl ?_
  repeat (first | exact trivial | refine ⟨.inl rfl, ?_⟩ | refine ⟨.inr ⟨rfl, rfl⟩, ?_⟩)
  ·rfl
 ·intro i hi
  by_cases hlt : i < 64
  repeat (first
   | ((with_reducible apply Zbw (j := i / 4)); rfl; rfl; exact (rfl : _ = Value.pointer (some ⟨_, _, _⟩)); (exact (rfl : _ = Value.int _ _)); (exact (rfl : _ = some (_, 1))); omega; omega; omega)
   | ((with_reducible apply Zbe (j := i)); rfl; rfl; exact (rfl : _ = Value.slice (some ⟨_, _, _⟩) _ _); (exact (rfl : _ = Value.int _ _)); (exact (rfl : _ = some (_, 1))); omega; omega; omega)
   | ((with_reducible apply Zac); rfl; rfl; (exact (rfl : _ = Value.int _ _)))
   | ((with_reducible apply Z3); rfl; rfl; (exact (rfl : _ = Value.int _ _)))
   | ((with_reducible apply Zl); rfl; rfl; (exact (rfl : _ = Value.int _ _)); (exact (rfl : _ = Value.int _ _)); (first
   | with_reducible exact Zcc (by omega)
   | with_reducible exact Za3 rfl (by omega) (by omega)
   | with_reducible exact Z7k (by first | exact ofI _ _ | rfl) (by first | exact ofI _ _ | rfl)
   | with_reducible exact Z4w (by first | exact ofI _ _ | rfl) (by omega)
   | with_reducible exact Zs1 (by omega) (by omega) (by omega)))
   | ((with_reducible apply Zc6); rfl; rfl; (exact (rfl : _ = Value.int _ _)); (exact Z2t rfl rfl (by first | exact Zet _ | rfl)))
   | ((with_reducible apply Zad); rfl; rfl; exact (rfl : _ = Value.pointer (some ⟨_, _, _⟩)); (exact Zee rfl rfl rfl (by omega) (fun _ => rfl)))
   | ((with_reducible apply Zay); rfl; exact (rfl : _ = Value.pointer (some ⟨_, _, _⟩)); (exact (rfl : _ = Value.int _ _)); (exact Zfb rfl rfl rfl rfl rfl (by omega) rfl rfl); exact (rfl : _ = _ :: _))
   | with_reducible refine Za ?_
   | with_reducible refine Zg ?_
   | with_reducible refine Zf ?_
   | with_reducible refine Z1 ?_
   | with_reducible refine Z0 ?_
   | with_reducible refine Zc ?_
   | with_reducible refine Z4 ?_
   | ((with_reducible apply Zx); rfl))
  refine Zao ⟨i + 1, by omega, by omega, ?_⟩
  refine Z5 (n := 4) rfl ?_ ?_ ?_ <;> try rfl
  repeat (first | exact trivial | refine ⟨.inl rfl, ?_⟩ | refine ⟨.inr ⟨rfl, rfl⟩, ?_⟩)
  ·obtain rfl : i = 64 := by omega
   repeat (first
    | ((with_reducible apply Zad); rfl; rfl; exact (rfl : _ = Value.pointer (some ⟨_, _, _⟩)); exact Zxl rfl hG rfl)
    | ((with_reducible apply Zac); rfl; rfl; (first
    | exact (rfl : _ = Value.int _ _)
    | exact (rfl : _ = Value.pointer (some _))))
    | ((with_reducible apply Zl); rfl; rfl; (exact (rfl : _ = Value.int _ _)); (exact (rfl : _ = Value.int _ _)); (with_reducible exact Zb5 (by omega)))
    | ((with_reducible apply Zha); rfl; rfl; exact (rfl : _ = Value.pointer (some ⟨_, _, _⟩)); (exact (rfl : _ = some (Value.pointer (some _)))))
    | ((with_reducible apply Za2); rfl; rfl; exact (rfl : _ = Value.pointer (some ⟨_, _, _⟩)); (exact (rfl : _ = some 0)); (exact Nat.zero_add _))
    | ((with_reducible apply Zad); rfl; rfl; exact (rfl : _ = Value.pointer (some ⟨_, _, _⟩)); (exact (rfl : _ = some (Value.agg _))))
    | ((with_reducible apply Zay); rfl; exact (rfl : _ = Value.pointer (some ⟨_, _, _⟩)); (exact (rfl : _ = Value.agg _)); (rfl); exact (rfl : _ = _ :: _))
    | ((with_reducible apply Zbs (nid := 3)); rfl; rfl; rfl; exact (rfl : _ = _ :: _))
    | with_reducible refine Za ?_
    | with_reducible refine Zg ?_
    | with_reducible refine Zf ?_
    | with_reducible refine Z1 ?_
    | with_reducible refine Zbb ?_
    | with_reducible refine Zc ?_
    | with_reducible refine Zaq ?_
    | with_reducible refine Zau ?_
    | ((with_reducible apply Zu); rfl)
    | ((with_reducible apply Zax); rfl))
   refine Zbg (fun x => [pt 0 0, dead, dead, dead, pt 2 0, dead, dead, pt 3 0] ++ List.replicate 33 dead ++ [.agg (Zag w32 64 kk).toArray, Iv (x : Nat)])
    (fun t : Nat => [stB v (sl 1 0 m c) (w64 n), byB 64 b, wB (Zn7 kk v (Zj4 b 64) t).2, vB (Zn7 kk v (Zj4 b 64) t).1]) (fun t => t ≤ 64) (fun t => 64 - t) 0 (by omega) ?_ ?_
   ·refine Z5 (n := 4) rfl ?_ rfl rfl
    repeat (first | exact trivial | refine ⟨.inl rfl, ?_⟩ | refine ⟨.inr ⟨rfl, rfl⟩, ?_⟩)
   ·intro t ht
    by_cases hlt : t < 64
    ·generalize hv : (Zn7 kk v (Zj4 b 64) t).1 = vt
     generalize hw : (Zn7 kk v (Zj4 b 64) t).2 = wt
     repeat (first
      | ((with_reducible apply Z0e); rfl; rfl; (exact (rfl : _ = Value.agg _)); (exact (rfl : _ = Value.int _ _)); exact Zqr (i := t) rfl rfl (by omega) (by omega) (by omega) (fun _ => rfl))
      | ((with_reducible apply Zbw (j := t % 16)); rfl; rfl; exact (rfl : _ = Value.pointer (some ⟨_, _, _⟩)); (exact (rfl : _ = Value.int _ _)); (exact (rfl : _ = some (_, 1))); omega; omega; omega)
      | ((with_reducible apply Zbw (j := (t + 1) % 16)); rfl; rfl; exact (rfl : _ = Value.pointer (some ⟨_, _, _⟩)); (exact (rfl : _ = Value.int _ _)); (exact (rfl : _ = some (_, 1))); omega; omega; omega)
      | ((with_reducible apply Zbw (j := (t + 14) % 16)); rfl; rfl; exact (rfl : _ = Value.pointer (some ⟨_, _, _⟩)); (exact (rfl : _ = Value.int _ _)); (exact (rfl : _ = some (_, 1))); omega; omega; omega)
      | ((with_reducible apply Zbw (j := (t + 9) % 16)); rfl; rfl; exact (rfl : _ = Value.pointer (some ⟨_, _, _⟩)); (exact (rfl : _ = Value.int _ _)); (exact (rfl : _ = some (_, 1))); omega; omega; omega)
      | ((with_reducible apply Zbw (j := 0)); rfl; rfl; exact (rfl : _ = Value.pointer (some ⟨_, _, _⟩)); (exact (rfl : _ = Value.int _ _)); (exact (rfl : _ = some (_, 1))); omega; omega; omega)
      | ((with_reducible apply Zbw (j := 1)); rfl; rfl; exact (rfl : _ = Value.pointer (some ⟨_, _, _⟩)); (exact (rfl : _ = Value.int _ _)); (exact (rfl : _ = some (_, 1))); omega; omega; omega)
      | ((with_reducible apply Zbw (j := 2)); rfl; rfl; exact (rfl : _ = Value.pointer (some ⟨_, _, _⟩)); (exact (rfl : _ = Value.int _ _)); (exact (rfl : _ = some (_, 1))); omega; omega; omega)
      | ((with_reducible apply Zbw (j := 4)); rfl; rfl; exact (rfl : _ = Value.pointer (some ⟨_, _, _⟩)); (exact (rfl : _ = Value.int _ _)); (exact (rfl : _ = some (_, 1))); omega; omega; omega)
      | ((with_reducible apply Zbw (j := 5)); rfl; rfl; exact (rfl : _ = Value.pointer (some ⟨_, _, _⟩)); (exact (rfl : _ = Value.int _ _)); (exact (rfl : _ = some (_, 1))); omega; omega; omega)
      | ((with_reducible apply Zbw (j := 6)); rfl; rfl; exact (rfl : _ = Value.pointer (some ⟨_, _, _⟩)); (exact (rfl : _ = Value.int _ _)); (exact (rfl : _ = some (_, 1))); omega; omega; omega)
      | ((with_reducible apply Zbw (j := 7)); rfl; rfl; exact (rfl : _ = Value.pointer (some ⟨_, _, _⟩)); (exact (rfl : _ = Value.int _ _)); (exact (rfl : _ = some (_, 1))); omega; omega; omega)
      | ((with_reducible apply Zac); rfl; rfl; (exact (rfl : _ = Value.int _ _)))
      | ((with_reducible apply Z3); rfl; rfl; (exact (rfl : _ = Value.int _ _)))
      | ((with_reducible apply Zl); rfl; rfl; (exact (rfl : _ = Value.int _ _)); (exact (rfl : _ = Value.int _ _)); (first
      | with_reducible exact Zcc (by omega)
      | with_reducible exact Za3 rfl (by omega) (by omega)
      | with_reducible exact Zpj (by first | exact ofI _ _ | rfl) (by first | exact ofI _ _ | rfl)
      | with_reducible exact Z4z (by first | exact ofI _ _ | rfl) (by first | exact ofI _ _ | rfl)
      | with_reducible exact Zsf (by omega)
      | with_reducible exact Zvt (by first | exact ofI _ _ | rfl) (by first | exact ofI _ _ | rfl)
      | with_reducible exact Zq0 (by omega) (by omega)))
      | ((with_reducible apply Zc7); rfl; rfl; (exact (rfl : _ = Value.pointer (some _))); rfl; rfl; (exact (rfl : _ = some (Value.slice (some ⟨_, _, _⟩) _ _))))
      | ((with_reducible apply Z47); rfl; rfl; (exact (rfl : _ = Value.slice _ _ _)); (exact (rfl : _ = Value.slice _ _ _)); exact (rfl : _ = some (Value.int _ _, _, _)); exact (rfl : _ = _ :: _))
      | ((with_reducible apply Zad); rfl; rfl; exact (rfl : _ = Value.pointer (some ⟨_, _, _⟩)); (first
      | exact Zee rfl rfl rfl (by omega) (fun _ => rfl)
      | exact (rfl : _ = some (Value.int _ _))))
      | ((with_reducible apply Zay); rfl; exact (rfl : _ = Value.pointer (some ⟨_, _, _⟩)); (exact (rfl : _ = Value.int _ _)); (first
      | exact Zfb rfl rfl rfl rfl rfl (by omega) rfl rfl
      | rfl); exact (rfl : _ = _ :: _))
      | ((with_reducible apply Zo (Zz5 _ _)); rfl; rfl; rfl; rfl; rfl; (exact (rfl : _ = Value.int _ _)))
      | ((with_reducible apply Zo (Zob _ 6 11 _ (by decide) (by decide))); rfl; rfl; rfl; rfl; rfl; (exact (rfl : _ = Value.int _ _)))
      | ((with_reducible apply Zo (Zob _ 2 13 _ (by decide) (by decide))); rfl; rfl; rfl; rfl; rfl; (exact (rfl : _ = Value.int _ _)))
      | ((with_reducible apply Zo (Zob _ 7 18 _ (by decide) (by decide))); rfl; rfl; rfl; rfl; rfl; (exact (rfl : _ = Value.int _ _)))
      | ((with_reducible apply Zo (Zob _ 17 19 _ (by decide) (by decide))); rfl; rfl; rfl; rfl; rfl; (exact (rfl : _ = Value.int _ _)))
      | with_reducible refine Za ?_
      | with_reducible refine Zg ?_
      | with_reducible refine Zf ?_
      | with_reducible refine Z1 ?_
      | with_reducible refine Z0 ?_
      | with_reducible refine Zc ?_
      | with_reducible refine Z4 ?_
      | (with_reducible refine Zb3 (by kernel_rfl) ?_)
      | (with_reducible refine Zc1 (by kernel_rfl) ?_)
      | ((with_reducible apply Zx); rfl))
     subst hv; subst hw
     refine Zao ⟨t + 1, by omega, by omega, ?_⟩
     refine Z5 (n := 4) rfl ?_ ?_ ?_
     repeat (first | exact trivial | refine ⟨.inl rfl, ?_⟩ | refine ⟨.inr ⟨rfl, rfl⟩, ?_⟩)
     ·rfl
     ·rfl
    ·obtain rfl : t = 64 := by omega
     generalize hv : (Zn7 kk v (Zj4 b 64) 64).1 = vt
     generalize hw : (Zn7 kk v (Zj4 b 64) 64).2 = wt
     repeat (first
      | ((with_reducible apply Zac); rfl; rfl; (exact (rfl : _ = Value.int _ _)))
      | ((with_reducible apply Zl); rfl; rfl; (exact (rfl : _ = Value.int _ _)); (exact (rfl : _ = Value.int _ _)); (with_reducible exact Zb5 (by omega)))
      | ((with_reducible apply Zad); rfl; rfl; exact (rfl : _ = Value.pointer (some ⟨_, _, _⟩)); (exact (rfl : _ = some (Value.agg _))))
      | with_reducible refine Za ?_
      | with_reducible refine Zg ?_
      | with_reducible refine Zf ?_
      | with_reducible refine Z1 ?_
      | with_reducible refine Zbb ?_
      | with_reducible refine Zc ?_
      | with_reducible refine Zaq ?_
      | with_reducible refine Zau ?_
      | ((with_reducible apply Zu); rfl)
      | ((with_reducible apply Zax); rfl))
     refine Zbg (fun x => [pt 0 0] ++ List.replicate 138 dead ++ [.agg (Zag w32 8 vt).toArray, Iv (x : Nat)])
      (fun x : Nat => [stB (Zva v vt x) (sl 1 0 m c) (w64 n), byB 64 b]) (fun x => x ≤ 8) (fun x => 8 - x) 0 (by omega) ?_ ?_
     ·refine Z5 (n := 2) rfl ?_ rfl rfl
      repeat (first | exact trivial | refine ⟨.inl rfl, ?_⟩ | refine ⟨.inr ⟨rfl, rfl⟩, ?_⟩)
     ·intro x hx
      by_cases hlt : x < 8
      repeat (first
       | ((with_reducible apply Zbw (j := x)); rfl; rfl; exact (rfl : _ = Value.pointer (some ⟨_, _, _⟩)); (exact (rfl : _ = Value.int _ _)); (exact (rfl : _ = some (_, 1))); omega; omega; omega)
       | ((with_reducible apply Z0e); rfl; rfl; (exact (rfl : _ = Value.agg _)); (exact (rfl : _ = Value.int _ _)); exact Zqr (i := x) rfl rfl (by omega) (by omega) (by omega) (fun _ => rfl))
       | ((with_reducible apply Zac); rfl; rfl; (first
       | exact (rfl : _ = Value.int _ _)
       | exact (rfl : _ = Value.pointer (some _))))
       | ((with_reducible apply Z3); rfl; rfl; (exact (rfl : _ = Value.int _ _)))
       | ((with_reducible apply Zl); rfl; rfl; (exact (rfl : _ = Value.int _ _)); (exact (rfl : _ = Value.int _ _)); (first
       | with_reducible exact Zcc (by omega)
       | with_reducible exact Za3 rfl (by omega) (by omega)
       | with_reducible exact Zpj (by first | exact ofI _ _ | rfl) (by first | exact ofI _ _ | rfl)))
       | ((with_reducible apply Zha); rfl; rfl; exact (rfl : _ = Value.pointer (some ⟨_, _, _⟩)); (exact (rfl : _ = some (Value.pointer (some _)))))
       | ((with_reducible apply Za2); rfl; rfl; exact (rfl : _ = Value.pointer (some ⟨_, _, _⟩)); (exact (rfl : _ = some 0)); (exact Nat.zero_add _))
       | ((with_reducible apply Zad); rfl; rfl; exact (rfl : _ = Value.pointer (some ⟨_, _, _⟩)); (exact Zrf rfl rfl rfl (by omega) (fun _ => rfl)))
       | ((with_reducible apply Zay); rfl; exact (rfl : _ = Value.pointer (some ⟨_, _, _⟩)); (exact (rfl : _ = Value.int _ _)); (exact Zwa rfl rfl rfl rfl rfl (by omega) rfl rfl); exact (rfl : _ = _ :: _))
       | with_reducible refine Za ?_
       | with_reducible refine Zg ?_
       | with_reducible refine Zf ?_
       | with_reducible refine Z1 ?_
       | with_reducible refine Z0 ?_
       | with_reducible refine Zc ?_
       | with_reducible refine Z4 ?_
       | (with_reducible refine Zb3 (by kernel_rfl) ?_)
       | (with_reducible refine Zc1 (by kernel_rfl) ?_)
       | ((with_reducible apply Zx); rfl))
      refine Zao ⟨x + 1, by omega, by omega, ?_⟩
      refine Z5 (n := 2) rfl ?_ rfl rfl
      repeat (first | exact trivial | refine ⟨.inl rfl, ?_⟩ | refine ⟨.inr ⟨rfl, rfl⟩, ?_⟩)
      ·obtain rfl : x = 8 := by omega
       repeat (first
        | ((with_reducible apply Zl); rfl; rfl; (exact (rfl : _ = Value.int _ _)); (exact (rfl : _ = Value.int _ _)); (with_reducible exact Zb5 (by omega)))
        | with_reducible refine Za ?_
        | with_reducible refine Zg ?_
        | with_reducible refine Zf ?_
        | with_reducible refine Zbb ?_
        | with_reducible refine Zc ?_
        | with_reducible refine Zaq ?_
        | with_reducible refine Zau ?_
        | ((with_reducible apply Zu); rfl)
        | ((with_reducible apply Zax); rfl))
       refine Zk3 ?_
       refine Zk (v := .tuple #[]) rfl ?_ rfl ?_ ?_
       ·subst hv; rfl
       ·rfl
       ·exact trivial
end Go.Flat
end
section
namespace Go.Flat
open Go.Proofs
variable {G : Glob}
abbrev Bs := List (BitVec 8)
def bl (s : ByteArray) : Bs := s.data.toList.map UInt8.toBitVec
theorem Zjp (s : ByteArray) : Zfa s = (bl s).map w8 := by
 unfold Zfa bl
 rw [List.map_map]; rfl
theorem Zht (s : ByteArray) : (bl s).length = s.size := by simp [bl]
def Zah (l : Bs) : Blk := { cells := l.map w8, sz := 1, wr := true, fix := false, mv := true, pur := true }
def Zid (l : Bs) (j : Nat) : Nat → BitVec 8 := fun i => l.getD (64 * j + i) 0
def Zmf (kk v : Nat → BitVec 32) (l : Bs) : Nat → Nat → BitVec 32
  | 0 => v
  | j + 1 => Z4p kk (Zmf kk v l j) (Zid l j)
theorem Z4x {l : Bs} {j : Nat} (h : 64 * j + 64 ≤ l.length) : ((l.map w8).drop (64 * j)).take 64 = Zag w8 64 (Zid l j) := by
 apply List.ext_getElem?
 intro i
 rcases Nat.lt_or_ge i 64 with hi | hi
 ·rw [Zd5 hi, List.getElem?_take, if_pos hi, List.getElem?_drop, List.getElem?_map]
  have : 64 * j + i < l.length := by omega
  simp [Zid, this]
 ·rw [List.getElem?_eq_none (by simp; omega), List.getElem?_eq_none (by rw [Zcf]; omega)]

theorem Zpb (s : ByteArray) : (Zfa s).all Zb9 = true := by rw [Zjp]; simp only [List.all_map, List.all_eq_true]; intros; rfl
theorem Z1n (l : Bs) : (l.map w8).all Zb9 = true := by simp only [List.all_map, List.all_eq_true]; intros; rfl
set_option maxHeartbeats 4000000 in
theorem Z6p (kk : Nat → BitVec 32) (hG : G 3 = some (Zag w32 64 kk)) (v : Nat → BitVec 32) (pre rest full : Bs) (s : ByteArray) (n : BitVec 64) (hf : full = rest ++ bl s) (hs : full.length ≤ 140737488355328) :
  Z6 Tryz.prog G 114 [pt 0 0, .string s] [stB v (slv 1 pre.length rest.length rest.length) (w64 n), Zah (pre ++ rest)] (.tuple #[])
   [stB (Zmf kk v full (full.length / 64)) (slv 1 (64 * (full.length / 64)) (full.length - 64 * (full.length / 64)) (full.length - 64 * (full.length / 64))) (w64 (n + BitVec.ofInt 64 s.size)), Zah full] := by
 have hlen : full.length = rest.length + s.size := by rw [hf]; simp [Zht]
 refine Za8 (fn := Tryz.f114) (nt := 44) rfl rfl rfl rfl ?_
 have hcat : (((pre ++ rest).map w8).drop pre.length).take (rest.length * 1) ++ Zfa s = full.map w8 := by
  rw [Nat.mul_one, List.map_append, List.drop_append_of_le_length (by simp), Zjp, hf, List.map_append]
  have : List.drop pre.length (List.map w8 pre) = [] := by simp
  rw [this, List.nil_append, List.take_of_length_le (by simp)]
 repeat (first
  | ((with_reducible apply Zbp); rfl; rfl; rfl; exact .inr rfl; exact (rfl : _ = Value.slice (some ⟨_, _, _⟩) _ _); exact (rfl : _ = Value.string _); exact Zey (n' := full.length) (rfl : _ = some (1, _, 1)) rfl rfl rfl rfl rfl (Zpb s) (by simp [Zah]) (by decide) hlen.symm (by omega); rfl; exact (rfl : _ = _ :: _))
  | ((with_reducible apply Zac); rfl; rfl; (first
  | exact (rfl : _ = Value.pointer (some _))
  | exact (rfl : _ = Value.string _)))
  | ((with_reducible apply Zl); rfl; rfl; (exact (rfl : _ = Value.int _ _)); (exact (rfl : _ = Value.int _ _)); (with_reducible exact add64 (by first | exact ofI _ _ | rfl) (by first | exact ofI _ _ | rfl)))
  | ((with_reducible apply Zc6); rfl; rfl; (exact (rfl : _ = Value.int _ _)); (exact Zr0 rfl rfl (by first | exact Zet _ | rfl)))
  | ((with_reducible apply Zha); rfl; rfl; exact (rfl : _ = Value.pointer (some ⟨_, _, _⟩)); (exact (rfl : _ = some (Value.pointer (some _)))))
  | ((with_reducible apply Za2); rfl; rfl; exact (rfl : _ = Value.pointer (some ⟨_, _, _⟩)); (first
  | exact (rfl : _ = some 8)
  | exact (rfl : _ = some 9)); (exact Nat.zero_add _))
  | ((with_reducible apply Zad); rfl; rfl; exact (rfl : _ = Value.pointer (some ⟨_, _, _⟩)); (first
  | exact (rfl : _ = some (Value.int _ _))
  | exact (rfl : _ = some (Value.slice _ _ _))))
  | ((with_reducible apply Zdm); rfl; rfl; (exact (rfl : _ = Value.string _)); (exact (rfl : _ = some (Value.int _ _))))
  | ((with_reducible apply Zay); rfl; exact (rfl : _ = Value.pointer (some ⟨_, _, _⟩)); (first
  | exact (rfl : _ = Value.int _ _)
  | exact (rfl : _ = Value.slice _ _ _)); (rfl); exact (rfl : _ = _ :: _))
  | with_reducible refine Za ?_
  | with_reducible refine Zg ?_
  | with_reducible refine Zf ?_
  | with_reducible refine Z1 ?_
  | with_reducible refine Zc ?_)
 refine Zbg (fun x => [pt 0 0])
  (fun j : Nat => [stB (Zmf kk v full j) (slv 1 (64 * j) (full.length - 64 * j) (full.length - 64 * j)) (w64 (n + BitVec.ofInt 64 s.size)), Zah full]) (fun j => 64 * j ≤ full.length) (fun j => full.length - 64 * j) 0 (by omega) ?_ ?_
 ·refine Z5 (n := 2) rfl ?_ ?_ rfl
  repeat (first | exact trivial | refine ⟨.inl rfl, ?_⟩ | refine ⟨.inr ⟨rfl, rfl⟩, ?_⟩)
  ·exact congrArg (fun c => [stB v (slv 1 0 full.length full.length) (w64 (n + BitVec.ofInt 64 s.size)), ({ cells := c, sz := 1, wr := true, fix := false, mv := true, pur := true } : Blk)]) hcat
 ·intro j hj
  by_cases hlt : 64 * j + 64 ≤ full.length
  repeat (first
   | ((with_reducible apply Zc7); rfl; rfl; exact (rfl : _ = Value.slice (some ⟨_, _, _⟩) _ _); rfl; rfl; first | exact Zfv (h := 64) rfl rfl rfl (by omega) rfl | exact Zjv (l := 64) (sz := 1) (j := 64 * (j + 1)) (m := full.length - 64 * (j + 1)) (c' := full.length - 64 * (j + 1)) rfl rfl rfl rfl (by omega) (by omega) rfl (by omega) (by omega) (by omega))
   | ((with_reducible apply Z2 (e := [some (0, 0), some (1, 64 * j)]) (nid := 0) (Z26 kk hG (Zmf kk v full j) (Zid full j) (full.length - 64 * j) (full.length - 64 * j) 64 (n + BitVec.ofInt 64 s.size))); rfl; rfl; rfl; rfl; rfl; rfl; rfl; exact ⟨⟨⟨rfl, rfl⟩, ⟨rfl, rfl, rfl, by omega, by omega⟩, trivial⟩, ⟨Zbd rfl rfl rfl rfl, Zeb rfl rfl (by (show 64 * j + (Zag w8 64 _).length ≤ (List.map w8 full).length; rw [Zcf, List.length_map]; exact hlt)) (Z4x hlt), trivial⟩, rfl, rfl, rfl⟩; exact (rfl : _ = Value.tuple _); exact (rfl : _ = _ :: _))
   | ((with_reducible apply Zac); rfl; rfl; (exact (rfl : _ = Value.pointer (some _))))
   | ((with_reducible apply Zl); rfl; rfl; (exact (rfl : _ = Value.int _ _)); (exact (rfl : _ = Value.int _ _)); (with_reducible exact Zgm (by omega)))
   | ((with_reducible apply Zha); rfl; rfl; exact (rfl : _ = Value.pointer (some ⟨_, _, _⟩)); (exact (rfl : _ = some (Value.pointer (some _)))))
   | ((with_reducible apply Za2); rfl; rfl; exact (rfl : _ = Value.pointer (some ⟨_, _, _⟩)); (exact (rfl : _ = some 8)); (exact Nat.zero_add _))
   | ((with_reducible apply Zad); rfl; rfl; exact (rfl : _ = Value.pointer (some ⟨_, _, _⟩)); (exact (rfl : _ = some (Value.slice _ _ _))))
   | ((with_reducible apply Zdm); rfl; rfl; (exact (rfl : _ = Value.slice _ _ _)); (exact (rfl : _ = some (Value.int _ _))))
   | ((with_reducible apply Zay); rfl; exact (rfl : _ = Value.pointer (some ⟨_, _, _⟩)); (exact (rfl : _ = Value.slice _ _ _)); (rfl); exact (rfl : _ = _ :: _))
   | with_reducible refine Za ?_
   | with_reducible refine Zg ?_
   | with_reducible refine Zf ?_
   | with_reducible refine Z1 ?_
   | with_reducible refine Z0 ?_
   | with_reducible refine Zc ?_
   | with_reducible refine Z4 ?_
   | ((with_reducible apply Zx); rfl))
  refine Zao ⟨j + 1, by omega, by omega, ?_⟩
  refine Z5 (n := 2) rfl ?_ ?_ rfl
  repeat (first | exact trivial | refine ⟨.inl rfl, ?_⟩ | refine ⟨.inr ⟨rfl, rfl⟩, ?_⟩)
  ·rfl
  ·have hj2 : j = full.length / 64 := by omega
   subst hj2
   repeat (first
    | ((with_reducible apply Zac); rfl; rfl; (exact (rfl : _ = Value.pointer (some _))))
    | ((with_reducible apply Zl); rfl; rfl; (exact (rfl : _ = Value.int _ _)); (exact (rfl : _ = Value.int _ _)); (with_reducible exact Zg1 (by omega)))
    | ((with_reducible apply Zha); rfl; rfl; exact (rfl : _ = Value.pointer (some ⟨_, _, _⟩)); (exact (rfl : _ = some (Value.pointer (some _)))))
    | ((with_reducible apply Za2); rfl; rfl; exact (rfl : _ = Value.pointer (some ⟨_, _, _⟩)); (exact (rfl : _ = some 8)); (exact Nat.zero_add _))
    | ((with_reducible apply Zad); rfl; rfl; exact (rfl : _ = Value.pointer (some ⟨_, _, _⟩)); (exact (rfl : _ = some (Value.slice _ _ _))))
    | ((with_reducible apply Zdm); rfl; rfl; (exact (rfl : _ = Value.slice _ _ _)); (exact (rfl : _ = some (Value.int _ _))))
    | with_reducible refine Za ?_
    | with_reducible refine Zg ?_
    | with_reducible refine Zf ?_
    | with_reducible refine Zbb ?_
    | with_reducible refine Zc ?_
    | with_reducible refine Zaq ?_
    | with_reducible refine Zau ?_
    | ((with_reducible apply Zu); rfl)
    | ((with_reducible apply Zax); rfl))
   refine Zk3 ?_
   refine Zk (v := .tuple #[]) rfl ?_ rfl ?_ ?_
   ·rfl
   ·rfl
   ·exact trivial
end Go.Flat
end
section
namespace Go.Flat
open Go.Proofs
variable {G : Glob}
def Zkq : Nat → BitVec 32
  | 0 => 0x6a09e667 | 1 => 0xbb67ae85 | 2 => 0x3c6ef372 | 3 => 0xa54ff53a | 4 => 0x510e527f | 5 => 0x9b05688c | 6 => 0x1f83d9ab | _ => 0x5be0cd19
abbrev Zuw : Value := .slice none 0 0
def Z5o (v : Nat → BitVec 32) (r n : Value) : List Value := Zag w32 8 v ++ [r, n]
theorem Z4e : Z6 Tryz.prog G 113 [] [] (.agg (Z5o Zkq Zuw (w64 0)).toArray) [] := by
 refine Za8 (fn := Tryz.f113) (nt := 3) rfl rfl rfl rfl ?_
 refine Zaa 1 (H' := [hole]) rfl ?_
 repeat (first
  | ((with_reducible apply Za5); rfl; rfl; rfl; exact (rfl : _ = some (Value.agg _)))
  | ((with_reducible apply Zay); rfl; exact (rfl : _ = Value.pointer (some ⟨_, _, _⟩)); (exact (rfl : _ = Value.agg _)); (rfl); exact (rfl : _ = _ :: _))
  | ((with_reducible apply Zbs (nid := 0)); rfl; rfl; rfl; exact (rfl : _ = _ :: _))
  | with_reducible refine Za ?_
  | with_reducible refine Zg ?_
  | with_reducible refine Zf ?_
  | with_reducible refine Zq ?_
  | with_reducible refine Zc ?_)
 refine Zr ?_
 refine Zd0 (v := .agg _) rfl rfl ?_
 rfl
def tl (M : Bs) : Bs := M.drop (64 * (M.length / 64))
def Zon (kk : Nat → BitVec 32) (M : Bs) : Nat → BitVec 32 := Zmf kk Zkq M (M.length / 64)
def Zgs (M : Bs) (s : ByteArray) : Bs := (tl M ++ bl s).take (64 * ((tl M ++ bl s).length / 64))
def stM (kk : Nat → BitVec 32) (M pre : Bs) (r : Nat) : Blk := stB (Zon kk M) (slv r pre.length (tl M).length (tl M).length) (w64 (BitVec.ofNat 64 M.length))
theorem Zqo (M : Bs) : (tl M).length = M.length - 64 * (M.length / 64) := by simp [tl]
theorem Z1a (M N : Bs) (j : Nat) : Zid (tl M ++ N) j = Zid (M ++ N) (M.length / 64 + j) := by
 have hk : 64 * (M.length / 64) ≤ M.length := by omega
 have : tl M ++ N = (M ++ N).drop (64 * (M.length / 64)) := by unfold tl; rw [List.drop_append_of_le_length hk]
 funext i
 unfold Zid
 rw [this]
 simp only [List.getD_eq_getElem?_getD, List.getElem?_drop]
 congr 2
 omega
theorem Zw8 (kk : Nat → BitVec 32) (M N : Bs) : ∀ j, Zmf kk (Zon kk M) (tl M ++ N) j = Zmf kk Zkq (M ++ N) (M.length / 64 + j)
 | 0 => by
  simp only [Zmf, Nat.add_zero]
  unfold Zon
  have : ∀ k, 64 * k ≤ M.length → Zmf kk Zkq M k = Zmf kk Zkq (M ++ N) k := by
   intro k
   induction k with
   | zero => intros; rfl
   | succ k ih =>
    intro h
    simp only [Zmf]
    rw [ih (by omega)]
    have hb : ∀ i, i < 64 → Zid M k i = Zid (M ++ N) k i := by
     intro i hi
     unfold Zid
     simp only [List.getD_eq_getElem?_getD]
     rw [List.getElem?_append_left (by omega)]
    have hin : ∀ t, t ≤ 64 → Zj4 (Zid M k) t = Zj4 (Zid (M ++ N) k) t := by
     intro t
     induction t with
     | zero => intros; rfl
     | succ t ih2 => intro ht; simp only [Zj4]; rw [ih2 (by omega), hb t (by omega)]
    unfold Z4p
    rw [hin 64 (by omega)]
  exact this _ (by omega)
 | j + 1 => by
  have e : M.length / 64 + (j + 1) = (M.length / 64 + j) + 1 := by omega
  rw [e]
  simp only [Zmf]
  rw [Zw8 kk M N j, Z1a]
theorem Zu3 (kk : Nat → BitVec 32) (hG : G 3 = some (Zag w32 64 kk)) (M pre : Bs) (s : ByteArray) (hs : (tl M).length + s.size ≤ 140737488355328) :
  Z6 Tryz.prog G 114 [pt 0 0, .string s] [stM kk M pre 1, Zah (pre ++ tl M)] (.tuple #[]) [stM kk (M ++ bl s) (Zgs M s) 1, Zah (Zgs M s ++ tl (M ++ bl s))] := by
 have h := Z6p (G := G) kk hG (Zon kk M) pre (tl M) (tl M ++ bl s) s (BitVec.ofNat 64 M.length) rfl (by simp [Zht]; omega)
 have hk : 64 * (M.length / 64) ≤ M.length := by omega
 have hl : (tl M ++ bl s).length = M.length - 64 * (M.length / 64) + s.size := by simp [Zqo, Zht]
 have hL : (M ++ bl s).length = M.length + s.size := by simp [Zht]
 have hq : (M ++ bl s).length / 64 = M.length / 64 + (tl M ++ bl s).length / 64 := by rw [hl, hL]; omega
 have hd : tl (M ++ bl s) = (tl M ++ bl s).drop (64 * ((tl M ++ bl s).length / 64)) := by
  have e1 : tl M ++ bl s = (M ++ bl s).drop (64 * (M.length / 64)) := by unfold tl; rw [List.drop_append_of_le_length hk]
  rw [e1, List.drop_drop, ← e1]
  unfold tl
  congr 1
  rw [hq]; unfold tl; omega
 have hp : (Zgs M s).length = 64 * ((tl M ++ bl s).length / 64) := by unfold Zgs; rw [List.length_take]; omega
 have e1 : Zmf kk (Zon kk M) (tl M ++ bl s) ((tl M ++ bl s).length / 64) = Zon kk (M ++ bl s) := by rw [Zw8]; unfold Zon; rw [hq]
 have e2 : Zgs M s ++ tl (M ++ bl s) = tl M ++ bl s := by rw [hd]; exact List.take_append_drop _ _
 have e3 : (tl (M ++ bl s)).length = (tl M ++ bl s).length - 64 * ((tl M ++ bl s).length / 64) := by rw [hd, List.length_drop]
 have e4 : BitVec.ofNat 64 M.length + BitVec.ofInt 64 s.size = BitVec.ofNat 64 (M ++ bl s).length := by rw [hL, BitVec.ofInt_natCast, BitVec.ofNat_add]
 rw [e1, e4, ← e3, ← hp, ← e2] at h
 exact h
end Go.Flat
end
section
namespace Go.Flat
open Go.Proofs
variable {G : Glob}
def Zh1 (ps : List ByteArray) : Blk := { cells := ps.map Value.string, sz := 1, wr := false, fix := false, mv := true, pur := true }
def dgB (d : Nat → BitVec 8) : Blk := { cells := Zag w8 32 d, sz := 32, wr := true, fix := true, mv := false, pur := true }
def Zch (ps : List ByteArray) : Bs := (ps.map bl).flatten
def Zqh (n : BitVec 64) (i : Nat) : BitVec 8 := (n >>> (56 - 8 * (i : Int)).toNat).setWidth 8
def Z7n (r : Nat) : Bs := (128 : BitVec 8) :: List.replicate ((119 - r) % 64) 0
def Z2e (r : Nat) (n : BitVec 64) : Nat → Bs
  | 0 => Z7n r
  | i + 1 => Z2e r n i ++ [Zqh n i]
def shaD (v : Nat → BitVec 32) (i : Nat) : BitVec 8 := (v (i / 4) >>> (24 - (i : Int) % 4 * 8).toNat).setWidth 8
def Zlf (v : Nat → BitVec 32) : Nat → Nat → BitVec 8
  | 0 => fun _ => 0
  | i + 1 => Zfg (Zlf v i) i (shaD v i)
def Zr5 (M : Bs) : BitVec 64 := BitVec.ofNat 64 M.length * BitVec.ofInt 64 8
def Zdw (M : Bs) (i : Nat) : Bs := Z2e (tl M).length (Zr5 M) i
def Zcq (kk : Nat → BitVec 32) (M : Bs) : Nat → BitVec 8 := Zlf (Zon kk (M ++ Zdw M 8)) 32
theorem Zna (r : Nat) (n : BitVec 64) : ∀ i, (Z2e r n i).length = 1 + (119 - r) % 64 + i
 | 0 => by simp [Z2e, Z7n]; omega
 | i + 1 => by simp [Z2e, Zna r n i]; omega
def Zm (l : Bs) : ByteArray := ⟨(l.map UInt8.ofBitVec).toArray⟩
theorem Zrb (l : Bs) : bl (Zm l) = l := by
 unfold bl Zm
 simp only [List.map_map]
 have : (UInt8.toBitVec ∘ UInt8.ofBitVec) = (id : BitVec 8 → BitVec 8) := rfl
 rw [this, List.map_id]
theorem Za1 (l : Bs) : (Zm l).size = l.length := by rw [← Zht, Zrb]

set_option maxHeartbeats 4000000 in
theorem Zvv (kk : Nat → BitVec 32) (hG : G 3 = some (Zag w32 64 kk)) (ps : List ByteArray) (c : Nat) (hn : ps.length ≤ 1000000) (hs : ∀ s, s ∈ ps → s.size ≤ 70368744177664) :
  Z6 Tryz.prog G 88 [slv 0 0 ps.length c] [Zh1 ps] (.agg (Zag w8 32 (Zcq kk (Zch ps))).toArray) [Zh1 ps] := by
 refine Za8 (fn := Tryz.f88) (nt := 67) rfl rfl rfl rfl ?_
 refine Zaa 6 (H' := [Zh1 ps, hole, hole, hole, hole, hole, hole]) rfl ?_
 repeat (first
  | ((with_reducible apply Zac); rfl; rfl; (first
  | exact (rfl : _ = Value.int _ _)
  | exact (rfl : _ = Value.slice _ _ _)))
  | ((with_reducible apply Zdm); rfl; rfl; (exact (rfl : _ = Value.slice _ _ _)); (exact (rfl : _ = some (Value.int _ _))))
  | ((with_reducible apply Zay); rfl; exact (rfl : _ = Value.pointer (some ⟨_, _, _⟩)); (exact (rfl : _ = Value.agg _)); (rfl); exact (rfl : _ = _ :: _))
  | ((with_reducible apply Zbs (nid := 1)); rfl; rfl; rfl; exact (rfl : _ = _ :: _))
  | ((with_reducible apply Zbs (nid := 2)); rfl; rfl; rfl; exact (rfl : _ = _ :: _))
  | ((with_reducible apply Zo (Z4e)); rfl; rfl; rfl; rfl; rfl; (exact (rfl : _ = Value.agg _)))
  | with_reducible refine Za ?_
  | with_reducible refine Zg ?_
  | with_reducible refine Zf ?_
  | with_reducible refine Z1 ?_
  | with_reducible refine Zc ?_)
 refine Zbo (Zb6.nilCell (k := 2) (j := 8) (b := 3) true 1 rfl (by decide) rfl (by show 0 < 10; decide) rfl rfl) ?_
 refine Zbg (fun x : Nat × Bs => [dead, dead, pt 1 0, pt 2 0] ++ List.replicate 8 dead ++ [slv 0 0 ps.length c, Iv ps.length, Iv (x.1 : Nat)])
  (fun x => [Zh1 ps, dgB (fun _ => 0), stM kk (Zch (ps.take x.1)) x.2 3, Zah (x.2 ++ tl (Zch (ps.take x.1))), hole, hole, hole]) (fun x => x.1 ≤ ps.length) (fun x => ps.length - x.1) (0, []) (by simp) ?_ ?_
 ·refine Z5 (n := 7) rfl ?_ ?_ rfl
  repeat (first | exact trivial | refine ⟨.inl rfl, ?_⟩ | refine ⟨.inr ⟨rfl, rfl⟩, ?_⟩)
  ·show _ = [Zh1 ps, dgB (fun _ => 0), stM kk (Zch (ps.take 0)) [] 3, Zah ([] ++ tl (Zch (ps.take 0))), hole, hole, hole]
   rw [show Zch (ps.take 0) = [] from by simp [Zch]]
   rfl
 ·rintro ⟨i, pre⟩ hi
  dsimp only at hi ⊢
  by_cases hlt : i < ps.length
  ·have hM : Zch (ps.take (i + 1)) = Zch (ps.take i) ++ bl ps[i] := by
    unfold Zch
    rw [List.take_add_one, List.map_append, List.flatten_append]
    simp [hlt]
   have hsz : (tl (Zch (ps.take i))).length + (ps[i]).size ≤ 140737488355328 := by
    have := hs ps[i] (List.getElem_mem hlt)
    rw [Zqo]; omega
   have hget : (Zh1 ps).cells[i]? = some (Value.string ps[i]) := by simp [Zh1, hlt]
   generalize hMi : Zch (ps.take i) = M at hM hsz
   repeat (first
    | ((with_reducible apply Zad); rfl; rfl; exact (rfl : _ = Value.pointer (some ⟨_, _, _⟩)); exact Zjm rfl rfl hget rfl)
    | ((with_reducible apply Zdq (e := [some (2, 0), some (3, 0)]) (nid := 0) (Zu3 kk hG M pre ps[i] hsz)); rfl; rfl; rfl; rfl; rfl; rfl; refine ⟨⟨⟨rfl, rfl⟩, rfl, trivial⟩, ⟨Zbd rfl rfl rfl (congrArg (fun q => Zag w32 8 (Zon kk M) ++ [slv 3 q (tl M).length (tl M).length, w64 (BitVec.ofNat 64 M.length)]) (Nat.zero_add _).symm), Zbd rfl rfl rfl rfl, trivial⟩, rfl, rfl, rfl, Nat.le_refl _⟩; exact (rfl : _ = Value.tuple _); rfl; exact (rfl : _ = _ :: _))
    | ((with_reducible apply Zbe (j := i)); rfl; rfl; exact (rfl : _ = Value.slice (some ⟨_, _, _⟩) _ _); (exact (rfl : _ = Value.int _ _)); (exact (rfl : _ = some (_, 1))); omega; omega; omega)
    | ((with_reducible apply Zac); rfl; rfl; (first
    | exact (rfl : _ = Value.int _ _)
    | exact (rfl : _ = Value.string _)))
    | ((with_reducible apply Z3); rfl; rfl; (exact (rfl : _ = Value.string _)))
    | ((with_reducible apply Zl); rfl; rfl; (exact (rfl : _ = Value.int _ _)); (exact (rfl : _ = Value.int _ _)); (first
    | with_reducible exact Zcc (by omega)
    | with_reducible exact Za3 rfl (by omega) (by omega)))
    | with_reducible refine Za ?_
    | with_reducible refine Zg ?_
    | with_reducible refine Zf ?_
    | with_reducible refine Z1 ?_
    | with_reducible refine Z0 ?_
    | with_reducible refine Zc ?_
    | with_reducible refine Z4 ?_
    | ((with_reducible apply Zx); rfl))
   refine Zao ⟨(i + 1, Zgs M ps[i]), by show i + 1 ≤ _; omega, by show _ - (i + 1) < _; omega, ?_⟩
   refine Z5 (n := 7) rfl ?_ ?_ rfl
   repeat (first | exact trivial | refine ⟨.inl rfl, ?_⟩ | refine ⟨.inr ⟨rfl, rfl⟩, ?_⟩)
   ·show _ = [Zh1 ps, dgB (fun _ => 0), stM kk (Zch (ps.take (i + 1))) (Zgs M ps[i]) 3, Zah (Zgs M ps[i] ++ tl (Zch (ps.take (i + 1)))), hole, hole, hole]
    rw [hM]
    exact congrArg (fun q => [Zh1 ps, dgB (fun _ => 0), stB (Zon kk (M ++ bl ps[i])) (slv 3 q (tl (M ++ bl ps[i])).length (tl (M ++ bl ps[i])).length) (w64 (BitVec.ofNat 64 (M ++ bl ps[i]).length)), Zah (Zgs M ps[i] ++ tl (M ++ bl ps[i])), hole, hole, hole]) (Nat.zero_add _)
  ·obtain rfl : i = ps.length := by omega
   rw [List.take_length]
   have htl : (tl (Zch ps)).length < 64 := by rw [Zqo]; omega
   generalize hMi : Zch ps = M at htl
   have hp : ∀ i, (Zdw M i).length = 1 + (119 - (tl M).length) % 64 + i := fun i => Zna _ _ i
   repeat (first
    | ((with_reducible apply Zxi (nid := 4)); rfl; rfl; exact (rfl : _ = Value.int _ _); exact (rfl : _ = Value.int _ _); exact Zr1 (n := (119 - (tl M).length) % 64 + 1) (c := 128) (rfl : _ = some (1, _, 1)) (by omega) rfl (by omega) (by decide) (by decide) rfl; exact (rfl : _ = _ :: _))
    | ((with_reducible apply Zay); rfl; exact (rfl : _ = Value.pointer (some ⟨4, _, _⟩)); exact (rfl : _ = Value.int _ _); exact Zm2 rfl rfl rfl (Z53 _ _) (by simp) rfl rfl; exact (rfl : _ = _ :: _))
    | ((with_reducible apply Zbe (j := 0)); rfl; rfl; exact (rfl : _ = Value.slice (some ⟨_, _, _⟩) _ _); (exact (rfl : _ = Value.int _ _)); (exact (rfl : _ = some (_, 1))); omega; omega; omega)
    | ((with_reducible apply Zac); rfl; rfl; (first
    | exact (rfl : _ = Value.int _ _)
    | exact (rfl : _ = Value.slice _ _ _)))
    | ((with_reducible apply Z3); rfl; rfl; (first
    | exact (rfl : _ = Value.int _ _)
    | exact (rfl : _ = Value.slice _ _ _)))
    | ((with_reducible apply Zl); rfl; rfl; (exact (rfl : _ = Value.int _ _)); (exact (rfl : _ = Value.int _ _)); (first
    | with_reducible exact Zb5 (by omega)
    | with_reducible exact Za3 rfl (by omega) (by omega)
    | with_reducible exact Zc4 rfl (by omega) (by omega)
    | with_reducible exact Z3z (by first | exact ofI _ _ | rfl) (by first | exact ofI _ _ | rfl)
    | with_reducible exact Zq0 (by omega) (by omega)))
    | ((with_reducible apply Za2); rfl; rfl; exact (rfl : _ = Value.pointer (some ⟨_, _, _⟩)); (first
    | exact (rfl : _ = some 8)
    | exact (rfl : _ = some 9)); (exact Nat.zero_add _))
    | ((with_reducible apply Zad); rfl; rfl; exact (rfl : _ = Value.pointer (some ⟨_, _, _⟩)); (first
    | exact (rfl : _ = some (Value.int _ _))
    | exact (rfl : _ = some (Value.slice _ _ _))))
    | ((with_reducible apply Zdm); rfl; rfl; (exact (rfl : _ = Value.slice _ _ _)); (exact (rfl : _ = some (Value.int _ _))))
    | with_reducible refine Za ?_
    | with_reducible refine Zg ?_
    | with_reducible refine Zf ?_
    | with_reducible refine Z1 ?_
    | with_reducible refine Zbb ?_
    | with_reducible refine Zc ?_
    | with_reducible refine Zaq ?_
    | with_reducible refine Zau ?_
    | ((with_reducible apply Zu); rfl)
    | ((with_reducible apply Zax); rfl))
   refine Zbg (fun x : Nat × Nat => [dead, dead, pt 1 0, pt 2 0, dead, dead, w64 (Zr5 M), slv 4 0 (Zdw M x.1).length x.2] ++ List.replicate 25 dead ++ [Iv (x.1 : Nat)])
    (fun x => [Zh1 ps, dgB (fun _ => 0), stM kk M pre 3, Zah (pre ++ tl M), Zah (Zdw M x.1)]) (fun x => x.1 ≤ 8) (fun x => 8 - x.1) (0, 128) (by show 0 ≤ 8; decide) ?_ ?_
   ·refine Z5 (n := 5) rfl ?_ ?_ rfl
    ·rw [show (Zdw M (0, 128).1).length = (119 - (tl M).length) % 64 + 1 from by rw [hp]; omega]
     repeat (first | exact trivial | refine ⟨.inl rfl, ?_⟩ | refine ⟨.inr ⟨rfl, rfl⟩, ?_⟩)
    ·exact congrArg (fun q => [Zh1 ps, dgB (fun _ => 0), stM kk M pre 3, Zah (pre ++ tl M), ({ cells := w8 128 :: q, sz := 1, wr := true, fix := false, mv := true, pur := true } : Blk)]) (show List.replicate ((119 - (tl M).length) % 64) (w8 0) = List.map w8 (List.replicate ((119 - (tl M).length) % 64) 0) from by rw [List.map_replicate])
   ·rintro ⟨i, cap⟩ hi8
    dsimp only at hi8 ⊢
    by_cases hl8 : i < 8
    ·have hpi := hp i
     have hpi1 := hp (i + 1)
     refine Zaa 1 (H' := [Zh1 ps, dgB (fun _ => 0), stM kk M pre 3, Zah (pre ++ tl M), Zah (Zdw M i), hole]) rfl ?_
     repeat (first
      | ((with_reducible apply Zdb (nid := 5)); rfl; rfl; rfl; exact (rfl : _ = some (Value.slice _ _ _, _)); exact (rfl : _ = _ :: _))
      | ((with_reducible apply Zbp); rfl; rfl; rfl; exact .inl ⟨_, rfl⟩; exact (rfl : _ = Value.slice (some ⟨_, _, _⟩) _ _); exact (rfl : _ = Value.slice (some ⟨_, _, _⟩) _ _); exact Zey (n' := (Zdw M (i + 1)).length) (rfl : _ = some (1, _, 1)) (rfl : _ = some (1, _)) rfl rfl rfl rfl rfl (by simp [Zah]) (by decide) (by omega) (by omega); rfl; exact (rfl : _ = _ :: _))
      | ((with_reducible apply Zac); rfl; rfl; (first
      | exact (rfl : _ = Value.int _ _)
      | exact (rfl : _ = Value.slice _ _ _)))
      | ((with_reducible apply Z3); rfl; rfl; (first
      | exact (rfl : _ = Value.int _ _)
      | exact (rfl : _ = Value.slice _ _ _)))
      | ((with_reducible apply Zl); rfl; rfl; (exact (rfl : _ = Value.int _ _)); (exact (rfl : _ = Value.int _ _)); (first
      | with_reducible exact Zcc (by omega)
      | with_reducible exact Za3 rfl (by omega) (by omega)
      | with_reducible exact Zc4 rfl (by omega) (by omega)
      | with_reducible exact Zlx rfl (by omega) (by omega)
      | with_reducible exact Zl8 (by omega)))
      | ((with_reducible apply Zc6); rfl; rfl; (exact (rfl : _ = Value.int _ _)); (exact Zfl rfl rfl (by first | exact Zet _ | rfl)))
      | with_reducible refine Za ?_
      | with_reducible refine Zg ?_
      | with_reducible refine Zf ?_
      | with_reducible refine Z1 ?_
      | with_reducible refine Z0 ?_
      | with_reducible refine Zc ?_
      | with_reducible refine Z4 ?_
      | ((with_reducible apply Zx); rfl))
     refine Zao ⟨(i + 1, (Zdw M (i + 1)).length), by show i + 1 ≤ 8; omega, by show 8 - (i + 1) < 8 - i; omega, ?_⟩
     refine Z5 (n := 5) rfl ?_ ?_ rfl
     repeat (first | exact trivial | refine ⟨.inl rfl, ?_⟩ | refine ⟨.inr ⟨rfl, rfl⟩, ?_⟩)
     ·have hq : List.take ((Zdw M i).length * 1) (List.drop 0 ((Zdw M i).map w8)) ++ [w8 (Zqh (Zr5 M) i)] = (Zdw M (i + 1)).map w8 := by
       rw [Nat.mul_one, List.drop_zero, List.take_of_length_le (by simp)]
       show _ = List.map w8 (Zdw M i ++ [Zqh (Zr5 M) i])
       rw [List.map_append]; rfl
      exact congrArg (fun q => [Zh1 ps, dgB (fun _ => 0), stM kk M pre 3, Zah (pre ++ tl M), ({ cells := q, sz := 1, wr := true, fix := false, mv := true, pur := true } : Blk)]) hq
    ·obtain rfl : i = 8 := by omega
     have hp8 := hp 8
     refine Zaa 1 (H' := [Zh1 ps, dgB (fun _ => 0), stM kk M pre 3, Zah (pre ++ tl M), Zah (Zdw M 8), hole]) rfl ?_
     have hS : bl (Zm (Zdw M 8)) = Zdw M 8 := Zrb _
     have hsz : (tl M).length + (Zm (Zdw M 8)).size ≤ 140737488355328 := by rw [Za1]; omega
     repeat (first
      | ((with_reducible apply Ze2); rfl; rfl; exact (rfl : _ = Value.slice (some ⟨_, _, _⟩) _ _); exact Zem (l := Zdw M 8) rfl rfl rfl rfl (by simp [Zah]) (by show List.take (Zdw M 8).length (List.drop 0 ((Zdw M 8).map w8)) = _; rw [List.drop_zero, List.take_of_length_le (by simp)]))
      | ((with_reducible apply Zdq (e := [some (2, 0), some (3, 0)]) (nid := 0) (Zu3 kk hG M pre (Zm (Zdw M 8)) hsz)); rfl; rfl; rfl; rfl; rfl; rfl; refine ⟨⟨⟨rfl, rfl⟩, rfl, trivial⟩, ⟨Zbd rfl rfl rfl (congrArg (fun q => Zag w32 8 (Zon kk M) ++ [slv 3 q (tl M).length (tl M).length, w64 (BitVec.ofNat 64 M.length)]) (Nat.zero_add _).symm), Zbd rfl rfl rfl rfl, trivial⟩, rfl, rfl, rfl, Nat.le_refl _⟩; exact (rfl : _ = Value.tuple _); rfl; exact (rfl : _ = _ :: _))
      | ((with_reducible apply Zac); rfl; rfl; (first
      | exact (rfl : _ = Value.int _ _)
      | exact (rfl : _ = Value.slice _ _ _)))
      | ((with_reducible apply Zl); rfl; rfl; (exact (rfl : _ = Value.int _ _)); (exact (rfl : _ = Value.int _ _)); (with_reducible exact Zb5 (by omega)))
      | ((with_reducible apply Zbs (nid := 5)); rfl; rfl; rfl; exact (rfl : _ = _ :: _))
      | with_reducible refine Za ?_
      | with_reducible refine Zg ?_
      | with_reducible refine Zf ?_
      | with_reducible refine Z1 ?_
      | with_reducible refine Zbb ?_
      | with_reducible refine Zc ?_
      | with_reducible refine Zaq ?_
      | with_reducible refine Zau ?_
      | ((with_reducible apply Zu); rfl)
      | ((with_reducible apply Zax); rfl))
     generalize hV : Zon kk (M ++ bl (Zm (Zdw M 8))) = V
     refine Zbg (fun x : Nat => [dead, dead, pt 1 0, pt 2 0, dead, dead, dead, dead, dead, pt 5 0] ++ List.replicate 39 dead ++ [Iv (x : Nat)])
      (fun x : Nat => [Zh1 ps, dgB (fun _ => 0), stB V (slv 3 (0 + (Zgs M (Zm (Zdw M 8))).length) (tl (M ++ bl (Zm (Zdw M 8)))).length (tl (M ++ bl (Zm (Zdw M 8)))).length) (w64 (BitVec.ofNat 64 (M ++ bl (Zm (Zdw M 8))).length)), Zah (Zgs M (Zm (Zdw M 8)) ++ tl (M ++ bl (Zm (Zdw M 8)))), Zah (Zdw M 8), dgB (Zlf V x)]) (fun x => x ≤ 32) (fun x => 32 - x) 0 (by omega) ?_ ?_
     ·subst hV
      refine Z5 (n := 6) rfl ?_ rfl rfl
      repeat (first | exact trivial | refine ⟨.inl rfl, ?_⟩ | refine ⟨.inr ⟨rfl, rfl⟩, ?_⟩)
     ·intro x hx
      by_cases hl : x < 32
      repeat (first
       | ((with_reducible apply Zbw (j := x / 4)); rfl; rfl; exact (rfl : _ = Value.pointer (some ⟨_, _, _⟩)); (exact (rfl : _ = Value.int _ _)); (exact (rfl : _ = some (_, 1))); omega; omega; omega)
       | ((with_reducible apply Zbw (j := x)); rfl; rfl; exact (rfl : _ = Value.pointer (some ⟨_, _, _⟩)); (exact (rfl : _ = Value.int _ _)); (exact (rfl : _ = some (_, 1))); omega; omega; omega)
       | ((with_reducible apply Zac); rfl; rfl; (exact (rfl : _ = Value.int _ _)))
       | ((with_reducible apply Z3); rfl; rfl; (exact (rfl : _ = Value.int _ _)))
       | ((with_reducible apply Zl); rfl; rfl; (exact (rfl : _ = Value.int _ _)); (exact (rfl : _ = Value.int _ _)); (first
       | with_reducible exact Zcc (by omega)
       | with_reducible exact Za3 rfl (by omega) (by omega)
       | with_reducible exact Zc4 rfl (by omega) (by omega)
       | with_reducible exact Zlx rfl (by omega) (by omega)
       | with_reducible exact Zsf (by omega)
       | with_reducible exact Zs1 (by omega) (by omega) (by omega)
       | with_reducible exact Zq0 (by omega) (by omega)))
       | ((with_reducible apply Zc6); rfl; rfl; (exact (rfl : _ = Value.int _ _)); (exact Zfl rfl rfl (by first | exact Zet _ | rfl)))
       | ((with_reducible apply Za2); rfl; rfl; exact (rfl : _ = Value.pointer (some ⟨_, _, _⟩)); (exact (rfl : _ = some 0)); (exact Nat.zero_add _))
       | ((with_reducible apply Zad); rfl; rfl; exact (rfl : _ = Value.pointer (some ⟨_, _, _⟩)); (exact Zrf rfl rfl rfl (by omega) (fun _ => rfl)))
       | ((with_reducible apply Zay); rfl; exact (rfl : _ = Value.pointer (some ⟨_, _, _⟩)); (exact (rfl : _ = Value.int _ _)); (exact Zfb rfl rfl rfl rfl rfl (by omega) rfl rfl); exact (rfl : _ = _ :: _))
       | with_reducible refine Za ?_
       | with_reducible refine Zg ?_
       | with_reducible refine Zf ?_
       | with_reducible refine Z1 ?_
       | with_reducible refine Z0 ?_
       | with_reducible refine Zc ?_
       | with_reducible refine Z4 ?_
       | ((with_reducible apply Zx); rfl))
      refine Zao ⟨x + 1, by omega, by omega, ?_⟩
      refine Z5 (n := 6) rfl ?_ rfl rfl
      repeat (first | exact trivial | refine ⟨.inl rfl, ?_⟩ | refine ⟨.inr ⟨rfl, rfl⟩, ?_⟩)
      ·obtain rfl : x = 32 := by omega
       repeat (first
        | ((with_reducible apply Zl); rfl; rfl; (exact (rfl : _ = Value.int _ _)); (exact (rfl : _ = Value.int _ _)); (with_reducible exact Zb5 (by omega)))
        | ((with_reducible apply Zad); rfl; rfl; exact (rfl : _ = Value.pointer (some ⟨_, _, _⟩)); (exact (rfl : _ = some (Value.agg _))))
        | ((with_reducible apply Zay); rfl; exact (rfl : _ = Value.pointer (some ⟨_, _, _⟩)); (exact (rfl : _ = Value.agg _)); (rfl); exact (rfl : _ = _ :: _))
        | with_reducible refine Za ?_
        | with_reducible refine Zg ?_
        | with_reducible refine Zf ?_
        | with_reducible refine Zbb ?_
        | with_reducible refine Zq ?_
        | with_reducible refine Zc ?_
        | with_reducible refine Zaq ?_
        | with_reducible refine Zau ?_
        | ((with_reducible apply Zu); rfl)
        | ((with_reducible apply Zax); rfl))
       refine Zr ?_
       refine Zk (v := .agg (Zag w8 32 (Zlf V 32)).toArray) rfl rfl rfl rfl ?_
       subst hMi
       rw [hS] at hV
       subst hV
       exact Zbm (Zbu fun _ => rfl) rfl
end Go.Flat
end
section
namespace Go.Flat
open Go.Proofs
variable {G : Glob}
abbrev dgV (d : Nat → BitVec 8) : Value := .agg (Zag w8 32 d).toArray
def dgL (d : Nat → BitVec 8) : Bs := (List.range 32).map d
theorem Zfc (d : Nat → BitVec 8) : (dgL d).length = 32 := by simp [dgL]
def Zl5 : ByteArray := ⟨#[1]⟩
def Zgr (kk : Nat → BitVec 32) (a b : Nat → BitVec 8) : Nat → BitVec 8 := Zcq kk (Zch [Zl5, Zm (dgL a), Zm (dgL b)])
theorem Z23 (kk : Nat → BitVec 32) (hG : G 3 = some (Zag w32 64 kk)) : Z6 Tryz.prog G 57 [] [] (dgV (Zcq kk [])) [] := by
 refine Za8 (fn := Tryz.f57) (nt := 2) rfl rfl rfl rfl ?_
 refine Zaa 1 (H' := [hole]) rfl ?_
 repeat (first
  | ((with_reducible apply Z2 (e := [none]) (nid := 0) (Zvv kk hG [] 0 (by decide) (by simp))); rfl; rfl; rfl; rfl; rfl; rfl; rfl; refine ⟨⟨⟨rfl, rfl, rfl, rfl⟩, trivial⟩, ⟨⟨rfl, rfl, by show 0 < 1; decide⟩, trivial⟩, rfl, rfl, rfl⟩; exact (rfl : _ = Value.agg _); exact (rfl : _ = _ :: _))
  | ((with_reducible apply Zay); rfl; exact (rfl : _ = Value.pointer (some ⟨_, _, _⟩)); (exact (rfl : _ = Value.agg _)); (rfl); exact (rfl : _ = _ :: _))
  | ((with_reducible apply Zbs (nid := 0)); rfl; rfl; rfl; exact (rfl : _ = _ :: _))
  | with_reducible refine Za ?_
  | with_reducible refine Zg ?_
  | with_reducible refine Zf ?_
  | with_reducible refine Zq ?_
  | with_reducible refine Zc ?_)
 refine Zr ?_
 refine Zd0 (v := dgV (Zcq kk [])) ?_ (Zbu fun _ => rfl) rfl
 rfl
theorem Ztr (kk : Nat → BitVec 32) (hG : G 3 = some (Zag w32 64 kk)) (a b : Nat → BitVec 8) : Z6 Tryz.prog G 59 [dgV a, dgV b] [] (dgV (Zgr kk a b)) [] := by
 refine Za8 (fn := Tryz.f59) (nt := 11) rfl rfl rfl rfl ?_
 refine Zaa 4 (H' := [hole, hole, hole, hole]) rfl ?_
 have h32 : ∀ d : Nat → BitVec 8, (Zm (dgL d)).size = 32 := fun d => by rw [Za1, Zfc]
 have hsz : ∀ s, s ∈ [Zl5, Zm (dgL a), Zm (dgL b)] → s.size ≤ 70368744177664 := by
  intro s hs
  simp only [List.mem_cons, List.not_mem_nil, or_false] at hs
  rcases hs with rfl | rfl | rfl
  ·show 1 ≤ 70368744177664; omega
  ·rw [h32]; omega
  ·rw [h32]; omega
 repeat (first
  | ((with_reducible apply Ze2); rfl; rfl; exact (rfl : _ = Value.slice (some ⟨_, _, _⟩) _ _); first | exact Zem (l := dgL a) rfl rfl rfl rfl (by show 0 + 32 ≤ 32; decide) rfl | exact Zem (l := dgL b) rfl rfl rfl rfl (by show 0 + 32 ≤ 32; decide) rfl)
  | ((with_reducible apply Zdb (nid := 3)); rfl; rfl; rfl; exact (rfl : _ = some (Value.slice _ _ _, _)); exact (rfl : _ = _ :: _))
  | ((with_reducible apply Z2 (e := [some (3, 0)]) (nid := 0) (Zvv kk hG [Zl5, Zm (dgL a), Zm (dgL b)] 3 (by simp) hsz)); rfl; rfl; rfl; rfl; rfl; rfl; rfl; refine ⟨⟨⟨rfl, rfl, rfl, Nat.le_refl _, Nat.le_refl _⟩, trivial⟩, ⟨Zeb rfl rfl (by show 0 + 3 ≤ 3; decide) rfl, trivial⟩, rfl, rfl, rfl⟩; exact (rfl : _ = Value.agg _); exact (rfl : _ = _ :: _))
  | ((with_reducible apply Zc7); rfl; rfl; (exact (rfl : _ = Value.pointer (some _))); rfl; rfl; (exact (rfl : _ = some (Value.slice (some ⟨_, _, _⟩) _ _))))
  | ((with_reducible apply Zay); rfl; exact (rfl : _ = Value.pointer (some ⟨_, _, _⟩)); (exact (rfl : _ = Value.agg _)); (rfl); exact (rfl : _ = _ :: _))
  | ((with_reducible apply Zk4 (nid := 0)); rfl; rfl; (exact (rfl : _ = Value.agg _)); rfl; exact (rfl : _ = _ :: _))
  | ((with_reducible apply Zk4 (nid := 1)); rfl; rfl; (exact (rfl : _ = Value.agg _)); rfl; exact (rfl : _ = _ :: _))
  | ((with_reducible apply Zbs (nid := 2)); rfl; rfl; rfl; exact (rfl : _ = _ :: _))
  | with_reducible refine Za ?_
  | with_reducible refine Zg ?_
  | with_reducible refine Zf ?_
  | with_reducible refine Zq ?_
  | with_reducible refine Zc ?_
  | (with_reducible refine Zb3 (by kernel_rfl) ?_)
  | (with_reducible refine Zc1 (by kernel_rfl) ?_))
 refine Zr ?_
 refine Zd0 (v := dgV (Zgr kk a b)) ?_ (Zbu fun _ => rfl) rfl
 rfl
end Go.Flat
end
section
namespace Go.Flat
open Go.Proofs
variable {G : Glob}
set_option maxHeartbeats 4000000 in
theorem Z3u (x : BitVec 64) : Z6 Tryz.prog G 116 [w64 x] [] (Iv (Zbj x.toNat)) [] := by
 refine Za8 (fn := Tryz.f116) (nt := 25) rfl rfl rfl rfl ?_
 have hx := x.isLt
 have last : ∀ (y : BitVec 64), y.toNat < 256 → (y.setWidth 8).toNat = y.toNat := fun y hy => by rw [BitVec.toNat_setWidth]; omega
 have key : ∀ (y : BitVec 64), y.toNat < 256 → ((y.setWidth 8).toNat < 256 ∧ Zbj (y.setWidth 8).toNat ≤ 8) := fun y hy => ⟨(y.setWidth 8).isLt, Zta (by have := (y.setWidth 8).isLt; omega)⟩
 by_cases h32 : (4294967296 : Int) ≤ (x.toNat : Int)
 by_cases h16 : (65536 : Int) ≤ ((x >>> Int.toNat 32).toNat : Int)
 by_cases h8 : (256 : Int) ≤ (((x >>> Int.toNat 32) >>> Int.toNat 16).toNat : Int)
 have e32 : (x >>> Int.toNat 32).toNat = x.toNat / 4294967296 := by rw [Zfy]; rfl
 have b32 : Zbj x.toNat = 32 + Zbj (x.toNat / 4294967296) := Zc9 (k := 32) (by omega)
 have e16 : ((x >>> Int.toNat 32) >>> Int.toNat 16).toNat = (x >>> Int.toNat 32).toNat / 65536 := by rw [Zfy]; rfl
 have b16 : Zbj (x >>> Int.toNat 32).toNat = 16 + Zbj ((x >>> Int.toNat 32).toNat / 65536) := Zc9 (k := 16) (by omega)
 have e8 : (((x >>> Int.toNat 32) >>> Int.toNat 16) >>> Int.toNat 8).toNat = ((x >>> Int.toNat 32) >>> Int.toNat 16).toNat / 256 := by rw [Zfy]; rfl
 have b8 : Zbj ((x >>> Int.toNat 32) >>> Int.toNat 16).toNat = 8 + Zbj (((x >>> Int.toNat 32) >>> Int.toNat 16).toNat / 256) := Zc9 (k := 8) (by omega)
 have hlast : (((x >>> Int.toNat 32) >>> Int.toNat 16) >>> Int.toNat 8).toNat < 256 := by omega
 obtain ⟨k1, k2⟩ := key (((x >>> Int.toNat 32) >>> Int.toNat 16) >>> Int.toNat 8) hlast
 have k3 := last (((x >>> Int.toNat 32) >>> Int.toNat 16) >>> Int.toNat 8) hlast
 repeat (first
  | ((with_reducible apply Zho); rfl; rfl; exact (rfl : _ = Value.string _); exact (rfl : _ = Value.int _ _); exact Zfu rfl rfl (by omega) (by kernel_rfl))
  | ((with_reducible apply Zac); rfl; rfl; (exact (rfl : _ = Value.int _ _)))
  | ((with_reducible apply Z3); rfl; rfl; (exact (rfl : _ = Value.int _ _)))
  | ((with_reducible apply Zl); rfl; rfl; (exact (rfl : _ = Value.int _ _)); (exact (rfl : _ = Value.int _ _)); (first
  | with_reducible exact Zgm (by omega)
  | with_reducible exact Za3 rfl (by omega) (by omega)
  | with_reducible exact Zl8 (by omega)))
  | ((with_reducible apply Zc6); rfl; rfl; (exact (rfl : _ = Value.int _ _)); (first
  | exact Zfl rfl rfl (by first | exact Zet _ | rfl)
  | exact Zn1 rfl rfl (by omega) (by omega)))
  | with_reducible refine Za ?_
  | with_reducible refine Zg ?_
  | with_reducible refine Zf ?_
  | with_reducible refine Zq ?_
  | with_reducible refine Zc ?_
  | ((with_reducible apply Zx); rfl))
 refine Zr ?_
 refine Zd0 (v := Iv _) rfl rfl ?_
 rw [k3]
 rw [b32, ← e32, b16, ← e16, b8, ← e8]
 congr 1 <;> omega
 have e32 : (x >>> Int.toNat 32).toNat = x.toNat / 4294967296 := by rw [Zfy]; rfl
 have b32 : Zbj x.toNat = 32 + Zbj (x.toNat / 4294967296) := Zc9 (k := 32) (by omega)
 have e16 : ((x >>> Int.toNat 32) >>> Int.toNat 16).toNat = (x >>> Int.toNat 32).toNat / 65536 := by rw [Zfy]; rfl
 have b16 : Zbj (x >>> Int.toNat 32).toNat = 16 + Zbj ((x >>> Int.toNat 32).toNat / 65536) := Zc9 (k := 16) (by omega)
 have hlast : ((x >>> Int.toNat 32) >>> Int.toNat 16).toNat < 256 := by omega
 obtain ⟨k1, k2⟩ := key ((x >>> Int.toNat 32) >>> Int.toNat 16) hlast
 have k3 := last ((x >>> Int.toNat 32) >>> Int.toNat 16) hlast
 repeat (first
  | ((with_reducible apply Zho); rfl; rfl; exact (rfl : _ = Value.string _); exact (rfl : _ = Value.int _ _); exact Zfu rfl rfl (by omega) (by kernel_rfl))
  | ((with_reducible apply Zac); rfl; rfl; (exact (rfl : _ = Value.int _ _)))
  | ((with_reducible apply Z3); rfl; rfl; (exact (rfl : _ = Value.int _ _)))
  | ((with_reducible apply Zl); rfl; rfl; (exact (rfl : _ = Value.int _ _)); (exact (rfl : _ = Value.int _ _)); (first
  | with_reducible exact Zgm (by omega)
  | with_reducible exact Zg1 (by omega)
  | with_reducible exact Za3 rfl (by omega) (by omega)
  | with_reducible exact Zl8 (by omega)))
  | ((with_reducible apply Zc6); rfl; rfl; (exact (rfl : _ = Value.int _ _)); (first
  | exact Zfl rfl rfl (by first | exact Zet _ | rfl)
  | exact Zn1 rfl rfl (by omega) (by omega)))
  | with_reducible refine Za ?_
  | with_reducible refine Zg ?_
  | with_reducible refine Zf ?_
  | with_reducible refine Z0 ?_
  | with_reducible refine Zq ?_
  | with_reducible refine Zc ?_
  | ((with_reducible apply Zx); rfl)
  | ((with_reducible apply Zu); rfl))
 refine Zr ?_
 refine Zd0 (v := Iv _) rfl rfl ?_
 rw [k3]
 rw [b32, ← e32, b16, ← e16]
 congr 1 <;> omega
 by_cases h8 : (256 : Int) ≤ ((x >>> Int.toNat 32).toNat : Int)
 have e32 : (x >>> Int.toNat 32).toNat = x.toNat / 4294967296 := by rw [Zfy]; rfl
 have b32 : Zbj x.toNat = 32 + Zbj (x.toNat / 4294967296) := Zc9 (k := 32) (by omega)
 have e8 : ((x >>> Int.toNat 32) >>> Int.toNat 8).toNat = (x >>> Int.toNat 32).toNat / 256 := by rw [Zfy]; rfl
 have b8 : Zbj (x >>> Int.toNat 32).toNat = 8 + Zbj ((x >>> Int.toNat 32).toNat / 256) := Zc9 (k := 8) (by omega)
 have hlast : ((x >>> Int.toNat 32) >>> Int.toNat 8).toNat < 256 := by omega
 obtain ⟨k1, k2⟩ := key ((x >>> Int.toNat 32) >>> Int.toNat 8) hlast
 have k3 := last ((x >>> Int.toNat 32) >>> Int.toNat 8) hlast
 repeat (first
  | ((with_reducible apply Zho); rfl; rfl; exact (rfl : _ = Value.string _); exact (rfl : _ = Value.int _ _); exact Zfu rfl rfl (by omega) (by kernel_rfl))
  | ((with_reducible apply Zac); rfl; rfl; (exact (rfl : _ = Value.int _ _)))
  | ((with_reducible apply Z3); rfl; rfl; (exact (rfl : _ = Value.int _ _)))
  | ((with_reducible apply Zl); rfl; rfl; (exact (rfl : _ = Value.int _ _)); (exact (rfl : _ = Value.int _ _)); (first
  | with_reducible exact Zgm (by omega)
  | with_reducible exact Zg1 (by omega)
  | with_reducible exact Za3 rfl (by omega) (by omega)
  | with_reducible exact Zl8 (by omega)))
  | ((with_reducible apply Zc6); rfl; rfl; (exact (rfl : _ = Value.int _ _)); (first
  | exact Zfl rfl rfl (by first | exact Zet _ | rfl)
  | exact Zn1 rfl rfl (by omega) (by omega)))
  | with_reducible refine Za ?_
  | with_reducible refine Zg ?_
  | with_reducible refine Zf ?_
  | with_reducible refine Z0 ?_
  | with_reducible refine Zq ?_
  | with_reducible refine Zc ?_
  | ((with_reducible apply Zx); rfl)
  | ((with_reducible apply Zu); rfl))
 refine Zr ?_
 refine Zd0 (v := Iv _) rfl rfl ?_
 rw [k3]
 rw [b32, ← e32, b8, ← e8]
 congr 1 <;> omega
 have e32 : (x >>> Int.toNat 32).toNat = x.toNat / 4294967296 := by rw [Zfy]; rfl
 have b32 : Zbj x.toNat = 32 + Zbj (x.toNat / 4294967296) := Zc9 (k := 32) (by omega)
 have hlast : (x >>> Int.toNat 32).toNat < 256 := by omega
 obtain ⟨k1, k2⟩ := key (x >>> Int.toNat 32) hlast
 have k3 := last (x >>> Int.toNat 32) hlast
 repeat (first
  | ((with_reducible apply Zho); rfl; rfl; exact (rfl : _ = Value.string _); exact (rfl : _ = Value.int _ _); exact Zfu rfl rfl (by omega) (by kernel_rfl))
  | ((with_reducible apply Zac); rfl; rfl; (exact (rfl : _ = Value.int _ _)))
  | ((with_reducible apply Z3); rfl; rfl; (exact (rfl : _ = Value.int _ _)))
  | ((with_reducible apply Zl); rfl; rfl; (exact (rfl : _ = Value.int _ _)); (exact (rfl : _ = Value.int _ _)); (first
  | with_reducible exact Zgm (by omega)
  | with_reducible exact Zg1 (by omega)
  | with_reducible exact Za3 rfl (by omega) (by omega)
  | with_reducible exact Zl8 (by omega)))
  | ((with_reducible apply Zc6); rfl; rfl; (exact (rfl : _ = Value.int _ _)); (first
  | exact Zfl rfl rfl (by first | exact Zet _ | rfl)
  | exact Zn1 rfl rfl (by omega) (by omega)))
  | with_reducible refine Za ?_
  | with_reducible refine Zg ?_
  | with_reducible refine Zf ?_
  | with_reducible refine Z0 ?_
  | with_reducible refine Zq ?_
  | with_reducible refine Zc ?_
  | ((with_reducible apply Zx); rfl)
  | ((with_reducible apply Zu); rfl))
 refine Zr ?_
 refine Zd0 (v := Iv _) rfl rfl ?_
 rw [k3]
 rw [b32, ← e32]
 congr 1 <;> omega
 by_cases h16 : (65536 : Int) ≤ (x.toNat : Int)
 by_cases h8 : (256 : Int) ≤ ((x >>> Int.toNat 16).toNat : Int)
 have e16 : (x >>> Int.toNat 16).toNat = x.toNat / 65536 := by rw [Zfy]; rfl
 have b16 : Zbj x.toNat = 16 + Zbj (x.toNat / 65536) := Zc9 (k := 16) (by omega)
 have e8 : ((x >>> Int.toNat 16) >>> Int.toNat 8).toNat = (x >>> Int.toNat 16).toNat / 256 := by rw [Zfy]; rfl
 have b8 : Zbj (x >>> Int.toNat 16).toNat = 8 + Zbj ((x >>> Int.toNat 16).toNat / 256) := Zc9 (k := 8) (by omega)
 have hlast : ((x >>> Int.toNat 16) >>> Int.toNat 8).toNat < 256 := by omega
 obtain ⟨k1, k2⟩ := key ((x >>> Int.toNat 16) >>> Int.toNat 8) hlast
 have k3 := last ((x >>> Int.toNat 16) >>> Int.toNat 8) hlast
 repeat (first
  | ((with_reducible apply Zho); rfl; rfl; exact (rfl : _ = Value.string _); exact (rfl : _ = Value.int _ _); exact Zfu rfl rfl (by omega) (by kernel_rfl))
  | ((with_reducible apply Zac); rfl; rfl; (exact (rfl : _ = Value.int _ _)))
  | ((with_reducible apply Z3); rfl; rfl; (exact (rfl : _ = Value.int _ _)))
  | ((with_reducible apply Zl); rfl; rfl; (exact (rfl : _ = Value.int _ _)); (exact (rfl : _ = Value.int _ _)); (first
  | with_reducible exact Zgm (by omega)
  | with_reducible exact Zg1 (by omega)
  | with_reducible exact Za3 rfl (by omega) (by omega)
  | with_reducible exact Zl8 (by omega)))
  | ((with_reducible apply Zc6); rfl; rfl; (exact (rfl : _ = Value.int _ _)); (first
  | exact Zfl rfl rfl (by first | exact Zet _ | rfl)
  | exact Zn1 rfl rfl (by omega) (by omega)))
  | with_reducible refine Za ?_
  | with_reducible refine Zg ?_
  | with_reducible refine Zf ?_
  | with_reducible refine Z0 ?_
  | with_reducible refine Zq ?_
  | with_reducible refine Zc ?_
  | ((with_reducible apply Zx); rfl)
  | ((with_reducible apply Zu); rfl))
 refine Zr ?_
 refine Zd0 (v := Iv _) rfl rfl ?_
 rw [k3]
 rw [b16, ← e16, b8, ← e8]
 congr 1 <;> omega
 have e16 : (x >>> Int.toNat 16).toNat = x.toNat / 65536 := by rw [Zfy]; rfl
 have b16 : Zbj x.toNat = 16 + Zbj (x.toNat / 65536) := Zc9 (k := 16) (by omega)
 have hlast : (x >>> Int.toNat 16).toNat < 256 := by omega
 obtain ⟨k1, k2⟩ := key (x >>> Int.toNat 16) hlast
 have k3 := last (x >>> Int.toNat 16) hlast
 repeat (first
  | ((with_reducible apply Zho); rfl; rfl; exact (rfl : _ = Value.string _); exact (rfl : _ = Value.int _ _); exact Zfu rfl rfl (by omega) (by kernel_rfl))
  | ((with_reducible apply Zac); rfl; rfl; (exact (rfl : _ = Value.int _ _)))
  | ((with_reducible apply Z3); rfl; rfl; (exact (rfl : _ = Value.int _ _)))
  | ((with_reducible apply Zl); rfl; rfl; (exact (rfl : _ = Value.int _ _)); (exact (rfl : _ = Value.int _ _)); (first
  | with_reducible exact Zgm (by omega)
  | with_reducible exact Zg1 (by omega)
  | with_reducible exact Za3 rfl (by omega) (by omega)
  | with_reducible exact Zl8 (by omega)))
  | ((with_reducible apply Zc6); rfl; rfl; (exact (rfl : _ = Value.int _ _)); (first
  | exact Zfl rfl rfl (by first | exact Zet _ | rfl)
  | exact Zn1 rfl rfl (by omega) (by omega)))
  | with_reducible refine Za ?_
  | with_reducible refine Zg ?_
  | with_reducible refine Zf ?_
  | with_reducible refine Z0 ?_
  | with_reducible refine Zq ?_
  | with_reducible refine Zc ?_
  | ((with_reducible apply Zx); rfl)
  | ((with_reducible apply Zu); rfl))
 refine Zr ?_
 refine Zd0 (v := Iv _) rfl rfl ?_
 rw [k3]
 rw [b16, ← e16]
 congr 1 <;> omega
 by_cases h8 : (256 : Int) ≤ (x.toNat : Int)
 have e8 : (x >>> Int.toNat 8).toNat = x.toNat / 256 := by rw [Zfy]; rfl
 have b8 : Zbj x.toNat = 8 + Zbj (x.toNat / 256) := Zc9 (k := 8) (by omega)
 have hlast : (x >>> Int.toNat 8).toNat < 256 := by omega
 obtain ⟨k1, k2⟩ := key (x >>> Int.toNat 8) hlast
 have k3 := last (x >>> Int.toNat 8) hlast
 repeat (first
  | ((with_reducible apply Zho); rfl; rfl; exact (rfl : _ = Value.string _); exact (rfl : _ = Value.int _ _); exact Zfu rfl rfl (by omega) (by kernel_rfl))
  | ((with_reducible apply Zac); rfl; rfl; (exact (rfl : _ = Value.int _ _)))
  | ((with_reducible apply Z3); rfl; rfl; (exact (rfl : _ = Value.int _ _)))
  | ((with_reducible apply Zl); rfl; rfl; (exact (rfl : _ = Value.int _ _)); (exact (rfl : _ = Value.int _ _)); (first
  | with_reducible exact Zgm (by omega)
  | with_reducible exact Zg1 (by omega)
  | with_reducible exact Za3 rfl (by omega) (by omega)
  | with_reducible exact Zl8 (by omega)))
  | ((with_reducible apply Zc6); rfl; rfl; (exact (rfl : _ = Value.int _ _)); (first
  | exact Zfl rfl rfl (by first | exact Zet _ | rfl)
  | exact Zn1 rfl rfl (by omega) (by omega)))
  | with_reducible refine Za ?_
  | with_reducible refine Zg ?_
  | with_reducible refine Zf ?_
  | with_reducible refine Z0 ?_
  | with_reducible refine Zq ?_
  | with_reducible refine Zc ?_
  | ((with_reducible apply Zx); rfl)
  | ((with_reducible apply Zu); rfl))
 refine Zr ?_
 refine Zd0 (v := Iv _) rfl rfl ?_
 rw [k3]
 rw [b8, ← e8]
 congr 1 <;> omega
 have hlast : x.toNat < 256 := by omega
 obtain ⟨k1, k2⟩ := key x hlast
 have k3 := last x hlast
 repeat (first
  | ((with_reducible apply Zho); rfl; rfl; exact (rfl : _ = Value.string _); exact (rfl : _ = Value.int _ _); exact Zfu rfl rfl (by omega) (by kernel_rfl))
  | ((with_reducible apply Zac); rfl; rfl; (exact (rfl : _ = Value.int _ _)))
  | ((with_reducible apply Z3); rfl; rfl; (exact (rfl : _ = Value.int _ _)))
  | ((with_reducible apply Zl); rfl; rfl; (exact (rfl : _ = Value.int _ _)); (exact (rfl : _ = Value.int _ _)); (first
  | with_reducible exact Zg1 (by omega)
  | with_reducible exact Za3 rfl (by omega) (by omega)))
  | ((with_reducible apply Zc6); rfl; rfl; (exact (rfl : _ = Value.int _ _)); (first
  | exact Zfl rfl rfl (by first | exact Zet _ | rfl)
  | exact Zn1 rfl rfl (by omega) (by omega)))
  | with_reducible refine Za ?_
  | with_reducible refine Zg ?_
  | with_reducible refine Zf ?_
  | with_reducible refine Z0 ?_
  | with_reducible refine Zq ?_
  | with_reducible refine Zc ?_
  | ((with_reducible apply Zu); rfl))
 refine Zr ?_
 refine Zd0 (v := Iv _) rfl rfl ?_
 rw [k3]
 congr 1 <;> omega
end Go.Flat
end
section
namespace Go.Flat
open Go.Proofs
variable {G : Glob}
theorem Z7v (x : BitVec 64) : Z6 Tryz.prog G 93 [w64 x] [] (Iv (Zbj x.toNat)) [] := by
 refine Za8 (fn := Tryz.f93) (nt := 8) rfl rfl rfl rfl ?_
 refine Zf (Zg (Zb (Iv 0) (Za (Zc (Zf (Zu rfl (Z0 (Zc (Zf (Zg (Zd (w64 x) ?_)))))))))))
 refine Zo (Z3u (G := G) x) (vals := [w64 x]) (res' := Iv (((Zbj x.toNat) : Nat) : Int)) rfl rfl rfl rfl rfl rfl ?_
 refine Zb (Iv (((Zbj x.toNat) : Nat) : Int)) (Za (Zc (Zq (Zr ?_))))
 exact Zd0 (v := Iv (((Zbj x.toNat) : Nat) : Int)) rfl rfl rfl
def Zdh (n : Int) : Int := if n < 2 then 0 else 2 ^ (Zbj (n - 1).toNat - 1)
theorem Zrq (n : Int) (h : n ≤ 9223372036854775807) : Z6 Tryz.prog G 64 [Iv n] [] (Iv (Zdh n)) [] := by
 refine Za8 (fn := Tryz.f64) (nt := 11) rfl rfl rfl rfl ?_
 refine Zf (Zg (Zb (Iv 0) (Za (Zc (Zf (Zf (Zg (Zd (Iv n) ?_))))))))
 by_cases h1 : n < 2
 refine Zl (vx := Iv n) (vy := Iv 2) rfl rfl (.bool true) rfl rfl (Zcc (by omega)) ?_
 refine Za (Zc (Zx rfl (Zf (Zg (Zb (Iv 0) (Za (Zc (Zq (Zz (Zr ?_))))))))))
 rw [show Zdh n = 0 from if_pos h1]
 exact Zd0 (v := Iv 0) rfl rfl rfl
 have hof : (BitVec.ofInt 64 (n - 1)).toNat = (n - 1).toNat := by rw [BitVec.toNat_ofInt]; omega
 have hb : Zbj (n - 1).toNat ≤ 63 := Zta (by omega)
 have hb1 : 1 ≤ Zbj (n - 1).toNat := by unfold Zbj; rw [if_neg (by omega)]; omega
 have hs : Zdh n = 2 ^ ((((Zbj (BitVec.ofInt 64 (n - 1)).toNat) : Nat) : Int) - 1).toNat := by rw [Zdh, if_neg h1, hof]; congr 1; omega
 rw [← hof] at hb hb1
 refine Zl (vx := Iv n) (vy := Iv 2) rfl rfl (.bool false) rfl rfl (Zb5 (by omega)) ?_
 refine Za (Zc (Zu rfl (Z0 (Zc (Zf (Zg (Zd (Iv n) ?_)))))))
 refine Zl (vx := Iv n) (vy := Iv 1) rfl rfl (Iv (n - 1)) rfl rfl (Zc4 (by omega) (by omega) (by omega)) ?_
 refine Zc6 (w := Iv (n - 1)) (v := w64 (BitVec.ofInt 64 (n - 1))) rfl rfl rfl (Zr0 rfl rfl rfl) ?_
 refine Zo (Z7v (G := G) (BitVec.ofInt 64 (n - 1))) (vals := [w64 (BitVec.ofInt 64 (n - 1))]) (res' := Iv (((Zbj (BitVec.ofInt 64 (n - 1)).toNat) : Nat) : Int)) rfl rfl rfl rfl rfl rfl ?_
 refine Zl (vx := Iv (((Zbj (BitVec.ofInt 64 (n - 1)).toNat) : Nat) : Int)) (vy := Iv 1) rfl rfl (Iv ((((Zbj (BitVec.ofInt 64 (n - 1)).toNat) : Nat) : Int) - 1)) rfl rfl (Zc4 (by omega) (by omega) (by omega)) ?_
 refine Zl (vx := Iv 1) (vy := Iv ((((Zbj (BitVec.ofInt 64 (n - 1)).toNat) : Nat) : Int) - 1)) rfl rfl (Iv (Zdh n)) rfl rfl (hs ▸ Z56 (by omega) (by omega)) ?_
 refine Zb (Iv (Zdh n)) (Za (Zc (Zq (Zr ?_))))
 exact Zd0 (v := Iv (Zdh n)) rfl rfl rfl
end Go.Flat
end
section
namespace Go.Flat
open Go.Proofs
variable {G : Glob}
theorem Z5u (hG : G 1 = some (Zag u8N 64 dbF)) (n : Nat) (h0 : 0 < n) (h1 : n < 18446744073709551616) : Z6 Tryz.prog G 90 [w64 (BitVec.ofNat 64 n)] [] (Iv (tz n)) [] := by
 refine Za8 (fn := Tryz.f90) (nt := 14) rfl rfl rfl rfl ?_
 generalize hx : BitVec.ofNat 64 n = x
 have hx0 : x.toNat = n := by rw [← hx, BitVec.toNat_ofNat]; omega
 have e : (((x &&& -x) * BitVec.ofInt 64 285870213051353865) >>> Int.toNat 58).toNat = ((x &&& -x) * BitVec.ofInt 64 285870213051353865).toNat / 288230376151711744 := by rw [Zfy]; rfl
 have hl := ((x &&& -x) * BitVec.ofInt 64 285870213051353865).isLt
 have hb := dbF_lt (((x &&& -x) * BitVec.ofInt 64 285870213051353865) >>> Int.toNat 58).toNat
 repeat (first
  | ((with_reducible apply Zg5); rfl; rfl; exact (rfl : _ = Value.int _ _); exact Z34 (ofI _ _))
  | ((with_reducible apply Zad); rfl; rfl; exact (rfl : _ = Value.pointer (some ⟨_, _, _⟩)); exact Zmc rfl hG (by omega) (fun _ => rfl))
  | ((with_reducible apply Zbw (j := (((x &&& -x) * BitVec.ofInt 64 285870213051353865) >>> Int.toNat 58).toNat)); rfl; rfl; exact (rfl : _ = Value.pointer (some ⟨_, _, _⟩)); (exact (rfl : _ = Value.int _ _)); (exact (rfl : _ = some (_, 1))); omega; omega; omega)
  | ((with_reducible apply Zac); rfl; rfl; (exact (rfl : _ = Value.int _ _)))
  | ((with_reducible apply Z3); rfl; rfl; (exact (rfl : _ = Value.int _ _)))
  | ((with_reducible apply Zl); rfl; rfl; (exact (rfl : _ = Value.int _ _)); (exact (rfl : _ = Value.int _ _)); (first
  | with_reducible exact Zer (by omega)
  | with_reducible exact Z3z (by first | exact ofI _ _ | rfl) (by first | exact ofI _ _ | rfl)
  | with_reducible exact Z7e (by first | exact ofI _ _ | rfl) (by first | exact ofI _ _ | rfl)
  | with_reducible exact Zl8 (by omega)))
  | ((with_reducible apply Zc6); rfl; rfl; (exact (rfl : _ = Value.int _ _)); (exact Zn1 rfl rfl (by omega) (by omega)))
  | with_reducible refine Za ?_
  | with_reducible refine Zg ?_
  | with_reducible refine Zf ?_
  | with_reducible refine Z0 ?_
  | with_reducible refine Zq ?_
  | with_reducible refine Zc ?_
  | ((with_reducible apply Zu); rfl))
 refine Zr ?_
 refine Zd0 (v := Iv _) rfl rfl ?_
 have := tz_db h0 (by omega)
 simp only [hx] at this
 rw [← this]
 rfl
theorem TZ_ok (hG : G 1 = some (Zag u8N 64 dbF)) (n : Nat) (h0 : 0 < n) (h1 : n < 18446744073709551616) : Z6 Tryz.prog G 60 [w64 (BitVec.ofNat 64 n)] [] (Iv (tz n)) [] := by
 refine Za8 (fn := Tryz.f60) (nt := 8) rfl rfl rfl rfl ?_
 repeat (first
  | ((with_reducible apply Zac); rfl; rfl; (exact (rfl : _ = Value.int _ _)))
  | ((with_reducible apply Z3); rfl; rfl; (exact (rfl : _ = Value.int _ _)))
  | ((with_reducible apply Zo (Z5u hG n h0 h1)); rfl; rfl; rfl; rfl; rfl; (exact (rfl : _ = Value.int _ _)))
  | with_reducible refine Za ?_
  | with_reducible refine Zg ?_
  | with_reducible refine Zf ?_
  | with_reducible refine Z0 ?_
  | with_reducible refine Zq ?_
  | with_reducible refine Zc ?_
  | ((with_reducible apply Zu); rfl))
 refine Zr ?_
 exact Zd0 (v := Iv _) rfl rfl rfl
end Go.Flat
end
section
namespace Go.Flat
open Go.Proofs
variable {G : Glob}
abbrev D := Nat → BitVec 8
def dsC (ds : List D) : List Value := (ds.map (Zag w8 32)).flatten
def dsB (ds : List D) : Blk := { cells := dsC ds, sz := 32, wr := true, fix := false, mv := true, pur := true }
def dsR (ds : List D) : Blk := { cells := dsC ds, sz := 32, wr := false, fix := false, mv := true, pur := true }
def Zqs (v : Value) : Blk := { cells := [v], sz := 1, wr := true, fix := true, mv := false, pur := false }
theorem Zb8 (ds : List D) : (dsC ds).length = ds.length * 32 := by
 induction ds with
 | nil => rfl
 | cons d ds ih => simp only [dsC, List.map_cons, List.flatten_cons, List.length_append, Zcf, List.length_cons] at ih ⊢; omega
theorem Zis (p q : List D) : dsC (p ++ q) = dsC p ++ dsC q := by simp [dsC]
theorem Zrk (p q : List D) : (dsC (p ++ q)).drop (p.length * 32) = dsC q := by
 rw [Zis, List.drop_append_of_le_length (by rw [Zb8]; exact Nat.le_refl _), List.drop_of_length_le (by rw [Zb8]; exact Nat.le_refl _), List.nil_append]
theorem Zqm (p q : List D) : (dsC (p ++ q)).take (p.length * 32) = dsC p := by
 rw [Zis, List.take_append_of_le_length (by rw [Zb8]; exact Nat.le_refl _), List.take_of_length_le (by rw [Zb8]; exact Nat.le_refl _)]
theorem Zhm (d : D) (q : List D) : dsC (d :: q) = Zag w8 32 d ++ dsC q := by simp [dsC]
theorem Zyf (p : List D) (a : D) (q : List D) : ((dsC (p ++ a :: q)).drop (p.length * 32)).take 32 = Zag w8 32 a := by
 rw [Zrk, Zhm, List.take_append_of_le_length (by rw [Zcf]; exact Nat.le_refl _), List.take_of_length_le (by rw [Zcf]; exact Nat.le_refl _)]
theorem Z6q (p : List D) (a b : D) (q : List D) : ((dsC (p ++ a :: b :: q)).drop ((p.length + 1) * 32)).take 32 = Zag w8 32 b := by
 have := Zyf (p ++ [a]) b q
 simpa using this
theorem Zoq {n : Nat} (d : D) : (Zag w8 n d).all Zb9 = true := Zrc fun _ => rfl
theorem Zw4 (ds : List D) : (dsC ds).all Zb9 = true := by
 induction ds with
 | nil => rfl
 | cons d ds ih => rw [Zhm, List.all_append, Zoq, ih]; rfl

set_option maxHeartbeats 4000000 in
theorem Z2m (kk : Nat → BitVec 32) (hG : G 3 = some (Zag w32 64 kk)) (p : List D) (a b : D) (hp : p.length ≤ 1000000) :
  Z6 Tryz.prog G 58 [pt 0 0] [Zqs (slv 1 0 (p.length + 2) (p.length + 2)), dsB (p ++ [a, b])] (.tuple #[]) [Zqs (slv 1 0 (p.length + 1) (p.length + 1)), dsB (p ++ [Zgr kk a b])] := by
 refine Za8 (fn := Tryz.f58) (nt := 21) rfl rfl rfl rfl ?_
 refine Zaa 1 (H' := [Zqs (slv 1 0 (p.length + 2) (p.length + 2)), dsB (p ++ [a, b]), hole]) rfl ?_
 have hlen : (dsB (p ++ [a, b])).cells.length = (p.length + 2) * 32 := by show (dsC (p ++ [a, b])).length = _; rw [Zb8]; simp
 repeat (first
  | ((with_reducible apply Zc7); rfl; rfl; exact (rfl : _ = Value.slice (some ⟨_, _, _⟩) _ _); rfl; rfl; exact Zfv (h := p.length) rfl rfl (by omega) (by omega) rfl)
  | ((with_reducible apply Zad); rfl; rfl; exact (rfl : _ = Value.pointer (some ⟨1, _, _⟩)); first | exact Zcy (n := 32) rfl rfl (by omega) (Zyf p a [b]) | exact Zcy (n := 32) rfl rfl (by omega) (Z6q p a b []))
  | ((with_reducible apply Zdb (nid := 2)); rfl; rfl; rfl; exact (rfl : _ = some (Value.slice _ _ _, _)); exact (rfl : _ = _ :: _))
  | ((with_reducible apply Zbp); rfl; rfl; rfl; exact .inl ⟨_, rfl⟩; exact (rfl : _ = Value.slice (some ⟨_, _, _⟩) _ _); exact (rfl : _ = Value.slice (some ⟨_, _, _⟩) _ _); exact Zey (n' := p.length + 1) (rfl : _ = some (32, _, 32)) (rfl : _ = some (1, _)) rfl rfl rfl rfl rfl (by rw [hlen]; omega) (by decide) rfl (by omega); rfl; exact (rfl : _ = _ :: _))
  | ((with_reducible apply Zbe (j := p.length * 32)); rfl; rfl; exact (rfl : _ = Value.slice (some ⟨_, _, _⟩) _ _); (exact (rfl : _ = Value.int _ _)); (exact (rfl : _ = some (_, 32))); omega; omega; omega)
  | ((with_reducible apply Zbe (j := (p.length + 1) * 32)); rfl; rfl; exact (rfl : _ = Value.slice (some ⟨_, _, _⟩) _ _); (exact (rfl : _ = Value.int _ _)); (exact (rfl : _ = some (_, 32))); omega; omega; omega)
  | ((with_reducible apply Zac); rfl; rfl; (exact (rfl : _ = Value.int _ _)))
  | ((with_reducible apply Z3); rfl; rfl; (exact (rfl : _ = Value.int _ _)))
  | ((with_reducible apply Zl); rfl; rfl; (exact (rfl : _ = Value.int _ _)); (exact (rfl : _ = Value.int _ _)); (with_reducible exact Zc4 rfl (by omega) (by omega)))
  | ((with_reducible apply Zad); rfl; rfl; exact (rfl : _ = Value.pointer (some ⟨_, _, _⟩)); (exact (rfl : _ = some (Value.slice _ _ _))))
  | ((with_reducible apply Zdm); rfl; rfl; (exact (rfl : _ = Value.slice _ _ _)); (exact (rfl : _ = some (Value.int _ _))))
  | ((with_reducible apply Zay); rfl; exact (rfl : _ = Value.pointer (some ⟨_, _, _⟩)); (exact (rfl : _ = Value.slice _ _ _)); (rfl); exact (rfl : _ = _ :: _))
  | ((with_reducible apply Zo (Ztr kk hG a b)); rfl; rfl; rfl; rfl; rfl; (exact (rfl : _ = Value.agg _)))
  | with_reducible refine Za ?_
  | with_reducible refine Zg ?_
  | with_reducible refine Zf ?_
  | with_reducible refine Zc ?_
  | (with_reducible refine Zb3 (by kernel_rfl) ?_)
  | (with_reducible refine Zc1 (by kernel_rfl) ?_))
 refine Zk3 ?_
 refine Zk (v := .tuple #[]) rfl ?_ rfl ?_ trivial
 ·have hq : List.take (p.length * 32) (List.drop 0 (dsC (p ++ [a, b]))) ++ Zag w8 32 (Zgr kk a b) = dsC (p ++ [Zgr kk a b]) := by
   rw [List.drop_zero, Zqm, Zis, Zhm]; simp [dsC]
  exact congrArg (fun q => [Zqs (slv 1 0 (p.length + 1) (p.length + 1)), ({ cells := q, sz := 32, wr := true, fix := false, mv := true, pur := true } : Blk)]) hq
 ·rfl
end Go.Flat
end
section
namespace Go.Flat
open Go.Proofs
variable {G : Glob}
def d0 : D := fun _ => 0
def Zix (kk : Nat → BitVec 32) (P : List D) : List D := P.take (P.length - 2) ++ [Zgr kk (P.getD (P.length - 2) d0) (P.getD (P.length - 1) d0)]
def Ze6 (kk : Nat → BitVec 32) : Nat → List D → List D
  | 0, P => P
  | n + 1, P => Zix kk (Ze6 kk n P)
def Zle (kk : Nat → BitVec 32) (ds : List D) : Nat → List D
  | 0 => []
  | i + 1 => Ze6 kk (tz (i + 1)) (Zle kk ds i ++ [ds.getD i d0])
theorem Ztc (kk : Nat → BitVec 32) {P : List D} (h : 2 ≤ P.length) : (Zix kk P).length = P.length - 1 := by simp [Zix]; omega
theorem Zjt (kk : Nat → BitVec 32) {P : List D} : ∀ n, n + 1 ≤ P.length → (Ze6 kk n P).length = P.length - n
 | 0, _ => rfl
 | n + 1, h => by
  have := Zjt kk (P := P) n (by omega)
  simp only [Ze6]
  rw [Ztc kk (by omega), this]; omega
theorem Zlv (kk : Nat → BitVec 32) (ds : List D) : ∀ i, (Zle kk ds i).length = Zos i
 | 0 => rfl
 | i + 1 => by
  have h1 := Zlv kk ds i
  have h2 := (Zux i).1
  simp only [Zle, Zos]
  rw [Zjt kk _ (by simp; omega)]
  simp; omega
def Zby (kk : Nat → BitVec 32) (ds : List D) : D := if ds.length = 0 then Zcq kk [] else (Ze6 kk (Zos ds.length - 1) (Zle kk ds ds.length)).getD 0 d0
theorem Z3i {P : List D} (h : 2 ≤ P.length) : P = P.take (P.length - 2) ++ [P.getD (P.length - 2) d0, P.getD (P.length - 1) d0] := by
 apply List.ext_getElem?
 intro i
 have hl : (P.take (P.length - 2)).length = P.length - 2 := by simp
 rcases Nat.lt_or_ge i (P.length - 2) with h1 | h1
 ·rw [List.getElem?_append_left (by omega), List.getElem?_take, if_pos h1]
 ·rw [List.getElem?_append_right (by omega), hl]
  rcases Nat.lt_or_ge i P.length with h2 | h2
  ·rcases Nat.eq_or_lt_of_le h1 with h3 | h3
   ·subst h3; simp [List.getD_eq_getElem?_getD]; rw [List.getElem?_eq_getElem (by omega)]; simp
   ·have : i = P.length - 1 := by omega
    subst this
    have e : P.length - 1 - (P.length - 2) = 1 := by omega
    rw [e]
    simp [List.getD_eq_getElem?_getD]; rw [List.getElem?_eq_getElem (by omega)]; simp
  ·rw [List.getElem?_eq_none h2, List.getElem?_eq_none (by simp; omega)]
theorem Zs2 (kk : Nat → BitVec 32) (hG : G 3 = some (Zag w32 64 kk)) (P : List D) (h2 : 2 ≤ P.length) (hp : P.length ≤ 1000000) :
  Z6 Tryz.prog G 58 [pt 0 0] [Zqs (slv 1 0 P.length P.length), dsB P] (.tuple #[]) [Zqs (slv 1 0 (Zix kk P).length (Zix kk P).length), dsB (Zix kk P)] := by
 have h := Z2m (G := G) kk hG (P.take (P.length - 2)) (P.getD (P.length - 2) d0) (P.getD (P.length - 1) d0) (by simp; omega)
 rw [← Z3i h2] at h
 have e1 : (P.take (P.length - 2)).length + 2 = P.length := by simp; omega
 have e2 : (P.take (P.length - 2)).length + 1 = (Zix kk P).length := by rw [Ztc kk h2]; simp; omega
 rw [e1, e2] at h
 exact h
end Go.Flat
end
section
namespace Go.Flat
open Go.Proofs
variable {G : Glob}
theorem Zga (ds : List D) (i : Nat) (h : i < ds.length) : ((dsC ds).drop (i * 32)).take 32 = Zag w8 32 (ds.getD i d0) := by
 have e : ds = ds.take i ++ ds[i] :: ds.drop (i + 1) := by rw [← List.drop_eq_getElem_cons h, List.take_append_drop]
 have h2 := Zyf (ds.take i) ds[i] (ds.drop (i + 1))
 rw [← e] at h2
 rw [show (ds.take i).length = i from by simp; omega] at h2
 rw [h2]
 congr 1
 simp [List.getD_eq_getElem?_getD, h]
set_option maxHeartbeats 8000000 in
theorem Ztt (kk : Nat → BitVec 32) (hG : G 3 = some (Zag w32 64 kk)) (hG1 : G 1 = some (Zag u8N 64 dbF)) (ds : List D) (c : Nat) (hn : ds.length ≤ 1000000) (hc : ds.length ≤ c) :
  Z6 Tryz.prog G 31 [slv 0 0 ds.length c] [dsR ds] (dgV (Zby kk ds)) [dsR ds] := by
 refine Za8 (fn := Tryz.f31) (nt := 41) rfl rfl rfl rfl ?_
 have hR : (dsR ds).cells.length = ds.length * 32 := Zb8 ds
 by_cases h0 : ds.length = 0
 ·refine Zaa 1 (H' := [dsR ds, hole]) rfl ?_
  repeat (first
   | ((with_reducible apply Zac); rfl; rfl; (exact (rfl : _ = Value.slice _ _ _)))
   | ((with_reducible apply Zl); rfl; rfl; (exact (rfl : _ = Value.int _ _)); (exact (rfl : _ = Value.int _ _)); (with_reducible exact Zdn (by omega)))
   | ((with_reducible apply Zdm); rfl; rfl; (exact (rfl : _ = Value.slice _ _ _)); (exact (rfl : _ = some (Value.int _ _))))
   | ((with_reducible apply Zay); rfl; exact (rfl : _ = Value.pointer (some ⟨_, _, _⟩)); (exact (rfl : _ = Value.agg _)); (rfl); exact (rfl : _ = _ :: _))
   | ((with_reducible apply Zbs (nid := 1)); rfl; rfl; rfl; exact (rfl : _ = _ :: _))
   | ((with_reducible apply Zo (Z23 kk hG)); rfl; rfl; rfl; rfl; rfl; (exact (rfl : _ = Value.agg _)))
   | with_reducible refine Za ?_
   | with_reducible refine Zg ?_
   | with_reducible refine Zf ?_
   | with_reducible refine Zq ?_
   | with_reducible refine Zc ?_
   | with_reducible refine Zz ?_
   | ((with_reducible apply Zx); rfl))
  refine Zr ?_
  refine Zk (v := dgV (Zcq kk [])) rfl rfl rfl ?_ ?_
  ·simp [Za0, dsR]
  ·exact Zbm (Zbu fun _ => rfl) (by unfold Zby; rw [if_pos h0])
 ·refine Zaa 2 (H' := [dsR ds, hole, hole]) rfl ?_
  repeat (first
   | ((with_reducible apply Zac); rfl; rfl; (first
   | exact (rfl : _ = Value.int _ _)
   | exact (rfl : _ = Value.slice _ _ _)))
   | ((with_reducible apply Z3); rfl; rfl; (exact (rfl : _ = Value.func _ _ _)))
   | ((with_reducible apply Zl); rfl; rfl; (exact (rfl : _ = Value.int _ _)); (exact (rfl : _ = Value.int _ _)); (with_reducible exact Zer (by omega)))
   | ((with_reducible apply Zop); rfl; rfl; (exact (rfl : _ = [])); (exact (rfl : _ = [_])); rfl)
   | ((with_reducible apply Zdm); rfl; rfl; (exact (rfl : _ = Value.slice _ _ _)); (exact (rfl : _ = some (Value.int _ _))))
   | ((with_reducible apply Zbs (nid := 1)); rfl; rfl; rfl; exact (rfl : _ = _ :: _))
   | ((with_reducible apply Zbs (nid := 2)); rfl; rfl; rfl; exact (rfl : _ = _ :: _))
   | with_reducible refine Za ?_
   | with_reducible refine Zg ?_
   | with_reducible refine Zf ?_
   | with_reducible refine Z1 ?_
   | with_reducible refine Z0 ?_
   | with_reducible refine Zc ?_
   | ((with_reducible apply Zu); rfl))
  refine Zbo (Zb6.nilCell (k := 2) (j := 0) (b := 3) true 32 rfl (by decide) rfl (by show 0 < 1; decide) rfl rfl) ?_
  refine Zbg (fun i : Nat => [dead, dead, pt 1 0, pt 2 0, .func (.func 58) #[] #[pt 2 0]] ++ List.replicate 7 dead ++ [slv 0 0 ds.length c, Iv ds.length, Iv (i : Nat)])
   (fun i => [dsR ds, dgB (fun _ => 0), Zqs (slv 3 0 (Zle kk ds i).length (Zle kk ds i).length), dsB (Zle kk ds i)]) (fun i => i ≤ ds.length) (fun i => ds.length - i) 0 (by omega) ?_ ?_
  ·refine Z5 (n := 4) rfl ?_ rfl rfl
   repeat (first | exact trivial | refine ⟨.inl rfl, ?_⟩ | refine ⟨.inr ⟨rfl, rfl⟩, ?_⟩)
  ·intro i hi
   by_cases hlt : i < ds.length
   ·have hpl := Zlv kk ds i
    obtain ⟨ok1, ok2, ok3⟩ := Zux i
    generalize hP : Zle kk ds i = P at hpl
    have hPl : (P ++ [ds.getD i d0]).length = Zos i + 1 := by simp [hpl]
    refine Zaa 2 (H' := [dsR ds, dgB (fun _ => 0), Zqs (slv 3 0 P.length P.length), dsB P, hole, hole]) rfl ?_
    have hBl : (dsB P).cells.length = P.length * 32 := Zb8 P
    have htz : (BitVec.ofInt 64 ((i : Int) + 1)) = BitVec.ofNat 64 (i + 1) := by rw [show ((i : Int) + 1) = ((i + 1 : Nat) : Int) from rfl, BitVec.ofInt_natCast]
    repeat (first
     | ((with_reducible apply Zad); rfl; rfl; exact (rfl : _ = Value.pointer (some ⟨0, _, _⟩)); exact Zcy (n := 32) rfl rfl (by omega) (Zga ds i hlt))
     | ((with_reducible apply Zdb (nid := 5)); rfl; rfl; rfl; exact (rfl : _ = some (Value.slice _ _ _, _)); exact (rfl : _ = _ :: _))
     | ((with_reducible apply Zbp); rfl; rfl; rfl; exact .inl ⟨_, rfl⟩; exact (rfl : _ = Value.slice (some ⟨_, _, _⟩) _ _); exact (rfl : _ = Value.slice (some ⟨_, _, _⟩) _ _); exact Zey (n' := (P ++ [ds.getD i d0]).length) (rfl : _ = some (32, _, 32)) (rfl : _ = some (1, _)) rfl rfl rfl rfl rfl (by rw [hBl]; omega) (by decide) (by simp) (by omega); rfl; exact (rfl : _ = _ :: _))
     | ((with_reducible apply Zc6); rfl; rfl; exact (rfl : _ = Value.int _ _); exact Zr0 rfl rfl htz)
     | ((with_reducible apply Zbe (j := i * 32)); rfl; rfl; exact (rfl : _ = Value.slice (some ⟨_, _, _⟩) _ _); (exact (rfl : _ = Value.int _ _)); (exact (rfl : _ = some (_, 32))); omega; omega; omega)
     | ((with_reducible apply Zac); rfl; rfl; (exact (rfl : _ = Value.int _ _)))
     | ((with_reducible apply Z3); rfl; rfl; (exact (rfl : _ = Value.int _ _)))
     | ((with_reducible apply Zl); rfl; rfl; (exact (rfl : _ = Value.int _ _)); (exact (rfl : _ = Value.int _ _)); (first
     | with_reducible exact Zcc (by omega)
     | with_reducible exact Za3 rfl (by omega) (by omega)))
     | ((with_reducible apply Zad); rfl; rfl; exact (rfl : _ = Value.pointer (some ⟨_, _, _⟩)); (first
     | exact (rfl : _ = some (Value.slice _ _ _))
     | exact (rfl : _ = some (Value.agg _))))
     | ((with_reducible apply Zay); rfl; exact (rfl : _ = Value.pointer (some ⟨_, _, _⟩)); (first
     | exact (rfl : _ = Value.slice _ _ _)
     | exact (rfl : _ = Value.agg _)); (rfl); exact (rfl : _ = _ :: _))
     | ((with_reducible apply Zbs (nid := 4)); rfl; rfl; rfl; exact (rfl : _ = _ :: _))
     | ((with_reducible apply Zo (TZ_ok hG1 (i + 1) (by omega) (by omega))); rfl; rfl; rfl; rfl; rfl; (exact (rfl : _ = Value.int _ _)))
     | with_reducible refine Za ?_
     | with_reducible refine Zg ?_
     | with_reducible refine Zf ?_
     | with_reducible refine Z1 ?_
     | with_reducible refine Z0 ?_
     | with_reducible refine Zc ?_
     | ((with_reducible apply Zx); rfl))
    have hcat : List.take (P.length * 32) (List.drop 0 (dsC P)) ++ Zag w8 32 (ds.getD i d0) = dsC (P ++ [ds.getD i d0]) := by
     rw [List.drop_zero, List.take_of_length_le (by rw [Zb8]; exact Nat.le_refl _), Zis, Zhm]; simp [dsC]
    refine Zbg (fun t : Nat => [dead, dead, pt 1 0, pt 2 0, .func (.func 58) #[] #[pt 2 0]] ++ List.replicate 7 dead ++ [slv 0 0 ds.length c, Iv ds.length, Iv (i : Nat)] ++ List.replicate 11 dead ++ [Iv (tz (i + 1)), Iv (t : Nat)])
     (fun t => [dsR ds, dgB (fun _ => 0), Zqs (slv 3 0 (Ze6 kk t (P ++ [ds.getD i d0])).length (Ze6 kk t (P ++ [ds.getD i d0])).length), dsB (Ze6 kk t (P ++ [ds.getD i d0])), dgB (ds.getD i d0)]) (fun t => t ≤ tz (i + 1)) (fun t => tz (i + 1) - t) 0 (by omega) ?_ ?_
    ·refine Z5 (n := 5) rfl ?_ ?_ rfl
     repeat (first | exact trivial | refine ⟨.inl rfl, ?_⟩ | refine ⟨.inr ⟨rfl, rfl⟩, ?_⟩)
     ·exact congrArg (fun q => [dsR ds, dgB (fun _ => 0), Zqs (slv 3 0 (P ++ [ds.getD i d0]).length (P ++ [ds.getD i d0]).length), ({ cells := q, sz := 32, wr := true, fix := false, mv := true, pur := true } : Blk), dgB (ds.getD i d0)]) hcat
    ·intro t ht
     have hQl := Zjt kk (P := P ++ [ds.getD i d0]) t (by omega)
     by_cases hlt2 : t < tz (i + 1)
     ·generalize hQ : Ze6 kk t (P ++ [ds.getD i d0]) = Q at hQl
      repeat (first
       | ((with_reducible apply Zdq (e := [some (2, 0), some (3, 0)]) (nid := 0) (Zs2 kk hG Q (by omega) (by omega))); rfl; rfl; rfl; rfl; rfl; rfl; refine ⟨⟨⟨rfl, rfl⟩, trivial⟩, ⟨Zbd rfl rfl rfl rfl, Zbd rfl rfl rfl rfl, trivial⟩, rfl, rfl, rfl, Nat.le_refl _⟩; exact (rfl : _ = Value.tuple _); rfl; exact (rfl : _ = _ :: _))
       | ((with_reducible apply Zac); rfl; rfl; (first
       | exact (rfl : _ = Value.int _ _)
       | exact (rfl : _ = Value.func _ _ _)))
       | ((with_reducible apply Zl); rfl; rfl; (exact (rfl : _ = Value.int _ _)); (exact (rfl : _ = Value.int _ _)); (first
       | with_reducible exact Zcc (by omega)
       | with_reducible exact Za3 rfl (by omega) (by omega)))
       | with_reducible refine Za ?_
       | with_reducible refine Zg ?_
       | with_reducible refine Zf ?_
       | with_reducible refine Z1 ?_
       | with_reducible refine Z0 ?_
       | with_reducible refine Zc ?_
       | with_reducible refine Z4 ?_
       | ((with_reducible apply Zx); rfl))
      subst hQ
      refine Zao ⟨t + 1, by omega, by omega, ?_⟩
      refine Z5 (n := 5) rfl ?_ rfl rfl
      repeat (first | exact trivial | refine ⟨.inl rfl, ?_⟩ | refine ⟨.inr ⟨rfl, rfl⟩, ?_⟩)
     ·obtain rfl : t = tz (i + 1) := by omega
      repeat (first
       | ((with_reducible apply Zac); rfl; rfl; (exact (rfl : _ = Value.int _ _)))
       | ((with_reducible apply Zl); rfl; rfl; (exact (rfl : _ = Value.int _ _)); (exact (rfl : _ = Value.int _ _)); (first
       | with_reducible exact Zb5 (by omega)
       | with_reducible exact Za3 rfl (by omega) (by omega)))
       | with_reducible refine Za ?_
       | with_reducible refine Zg ?_
       | with_reducible refine Zf ?_
       | with_reducible refine Zbb ?_
       | with_reducible refine Zc ?_
       | with_reducible refine Zaq ?_
       | with_reducible refine Z4 ?_
       | with_reducible refine Zau ?_
       | ((with_reducible apply Zu); rfl)
       | ((with_reducible apply Zax); rfl))
      subst hP
      refine Zao ⟨i + 1, by omega, by omega, ?_⟩
      refine Z5 (n := 4) rfl ?_ rfl rfl
      repeat (first | exact trivial | refine ⟨.inl rfl, ?_⟩ | refine ⟨.inr ⟨rfl, rfl⟩, ?_⟩)
   ·obtain rfl : i = ds.length := by omega
    have hpl := Zlv kk ds ds.length
    obtain ⟨ok1, ok2, ok3⟩ := Zux (ds.length - 1)
    rw [show ds.length - 1 + 1 = ds.length from by omega] at ok2
    have hle : Zos ds.length ≤ ds.length := by
     exact Zt0 _
    generalize hP : Zle kk ds ds.length = P at hpl
    repeat (first
     | ((with_reducible apply Zl); rfl; rfl; (exact (rfl : _ = Value.int _ _)); (exact (rfl : _ = Value.int _ _)); (with_reducible exact Zb5 (by omega)))
     | with_reducible refine Za ?_
     | with_reducible refine Zg ?_
     | with_reducible refine Zf ?_
     | with_reducible refine Z1 ?_
     | with_reducible refine Zbb ?_
     | with_reducible refine Zc ?_
     | with_reducible refine Zaq ?_
     | with_reducible refine Zau ?_
     | ((with_reducible apply Zu); rfl)
     | ((with_reducible apply Zax); rfl))
    refine Zbg (fun t : Nat => [dead, dead, pt 1 0, pt 2 0, .func (.func 58) #[] #[pt 2 0]])
     (fun t => [dsR ds, dgB (fun _ => 0), Zqs (slv 3 0 (Ze6 kk t P).length (Ze6 kk t P).length), dsB (Ze6 kk t P)]) (fun t => t + 1 ≤ P.length) (fun t => P.length - t) 0 (by omega) ?_ ?_
    ·subst hP
     refine Z5 (n := 4) rfl ?_ rfl rfl
     repeat (first | exact trivial | refine ⟨.inl rfl, ?_⟩ | refine ⟨.inr ⟨rfl, rfl⟩, ?_⟩)
    ·intro t ht
     have hQl := Zjt kk (P := P) t ht
     by_cases hlt2 : t + 2 ≤ P.length
     ·generalize hQ : Ze6 kk t P = Q at hQl
      repeat (first
       | ((with_reducible apply Zdq (e := [some (2, 0), some (3, 0)]) (nid := 0) (Zs2 kk hG Q (by omega) (by omega))); rfl; rfl; rfl; rfl; rfl; rfl; refine ⟨⟨⟨rfl, rfl⟩, trivial⟩, ⟨Zbd rfl rfl rfl rfl, Zbd rfl rfl rfl rfl, trivial⟩, rfl, rfl, rfl, Nat.le_refl _⟩; exact (rfl : _ = Value.tuple _); rfl; exact (rfl : _ = _ :: _))
       | ((with_reducible apply Zac); rfl; rfl; (exact (rfl : _ = Value.func _ _ _)))
       | ((with_reducible apply Zl); rfl; rfl; (exact (rfl : _ = Value.int _ _)); (exact (rfl : _ = Value.int _ _)); (with_reducible exact Zes (by omega)))
       | ((with_reducible apply Zad); rfl; rfl; exact (rfl : _ = Value.pointer (some ⟨_, _, _⟩)); (exact (rfl : _ = some (Value.slice _ _ _))))
       | ((with_reducible apply Zdm); rfl; rfl; (exact (rfl : _ = Value.slice _ _ _)); (exact (rfl : _ = some (Value.int _ _))))
       | with_reducible refine Za ?_
       | with_reducible refine Zg ?_
       | with_reducible refine Zf ?_
       | with_reducible refine Z1 ?_
       | with_reducible refine Z0 ?_
       | with_reducible refine Zc ?_
       | with_reducible refine Z4 ?_
       | ((with_reducible apply Zx); rfl))
      subst hQ
      refine Zao ⟨t + 1, by omega, by omega, ?_⟩
      refine Z5 (n := 4) rfl ?_ rfl rfl
      repeat (first | exact trivial | refine ⟨.inl rfl, ?_⟩ | refine ⟨.inr ⟨rfl, rfl⟩, ?_⟩)
     ·have ht1 : t = P.length - 1 := by omega
      have hQ1 : (Ze6 kk t P).length = 1 := by omega
      have hroot : (Ze6 kk t P).getD 0 d0 = Zby kk ds := by
       unfold Zby; rw [if_neg h0, hP, ← hpl, ← ht1]
      have hat := Zga (Ze6 kk t P) 0 (by omega)
      rw [hroot] at hat
      have hBl : (dsB (Ze6 kk t P)).cells.length = 32 := by show (dsC _).length = _; rw [Zb8, hQ1]
      generalize hQ : Ze6 kk t P = Q at hQl hQ1 hat hBl
      repeat (first
       | ((with_reducible apply Zad); rfl; rfl; exact (rfl : _ = Value.pointer (some ⟨3, _, _⟩)); exact Zcy (n := 32) rfl rfl (by omega) hat)
       | ((with_reducible apply Zbe (j := 0)); rfl; rfl; exact (rfl : _ = Value.slice (some ⟨_, _, _⟩) _ _); (exact (rfl : _ = Value.int _ _)); (exact (rfl : _ = some (_, 32))); omega; omega; omega)
       | ((with_reducible apply Zl); rfl; rfl; (exact (rfl : _ = Value.int _ _)); (exact (rfl : _ = Value.int _ _)); (with_reducible exact Zeq (by omega)))
       | ((with_reducible apply Zad); rfl; rfl; exact (rfl : _ = Value.pointer (some ⟨_, _, _⟩)); (exact (rfl : _ = some (Value.slice _ _ _))))
       | ((with_reducible apply Zdm); rfl; rfl; (exact (rfl : _ = Value.slice _ _ _)); (exact (rfl : _ = some (Value.int _ _))))
       | ((with_reducible apply Zay); rfl; exact (rfl : _ = Value.pointer (some ⟨_, _, _⟩)); (exact (rfl : _ = Value.agg _)); (rfl); exact (rfl : _ = _ :: _))
       | with_reducible refine Za ?_
       | with_reducible refine Zg ?_
       | with_reducible refine Zf ?_
       | with_reducible refine Zbb ?_
       | with_reducible refine Zq ?_
       | with_reducible refine Zc ?_
       | with_reducible refine Zaq ?_
       | with_reducible refine Zau ?_
       | ((with_reducible apply Zu); rfl)
       | ((with_reducible apply Zax); rfl))
      refine Zr ?_
      refine Zk (v := dgV (Zby kk ds)) rfl rfl rfl ?_ ?_
      ·simp [Za0, dsR]
      ·exact Zbm (Zbu fun _ => rfl) rfl
end Go.Flat
end
section
namespace Go.Flat
open Go.Proofs
variable {G : Glob}
def Zki (us vs : List D) : Bool := us.length == vs.length && (List.range us.length).all fun i => Zcv 32 (us.getD i d0) (vs.getD i d0)
set_option maxHeartbeats 4000000 in
theorem Zys (us vs : List D) (c c' : Nat) (hn : us.length ≤ 1000000) (hm : vs.length ≤ 1000000) :
  Z6 Tryz.prog G 24 [slv 0 0 us.length c, slv 1 0 vs.length c'] [dsR us, dsR vs] (.bool (Zki us vs)) [dsR us, dsR vs] := by
 refine Za8 (fn := Tryz.f24) (nt := 26) rfl rfl rfl rfl ?_
 have hA : (dsR us).cells.length = us.length * 32 := Zb8 us
 have hB : (dsR vs).cells.length = vs.length * 32 := Zb8 vs
 have hend : (([dsR us, dsR vs] : List Blk).all (Za0 ([dsR us, dsR vs] : List Blk).length)) = true := by simp [Za0, dsR]
 by_cases hl : us.length = vs.length
 repeat (first
  | ((with_reducible apply Zac); rfl; rfl; (exact (rfl : _ = Value.slice _ _ _)))
  | ((with_reducible apply Z3); rfl; rfl; (first
  | exact (rfl : _ = Value.int _ _)
  | exact (rfl : _ = Value.bool _)))
  | ((with_reducible apply Zl); rfl; rfl; (exact (rfl : _ = Value.int _ _)); (exact (rfl : _ = Value.int _ _)); (with_reducible exact Zdz (by omega)))
  | ((with_reducible apply Zdm); rfl; rfl; (exact (rfl : _ = Value.slice _ _ _)); (exact (rfl : _ = some (Value.int _ _))))
  | with_reducible refine Za ?_
  | with_reducible refine Zg ?_
  | with_reducible refine Zf ?_
  | with_reducible refine Z1 ?_
  | with_reducible refine Z0 ?_
  | with_reducible refine Zc ?_
  | ((with_reducible apply Zu); rfl))
 refine Zbg (fun i : Nat => [slv 0 0 us.length c, slv 1 0 vs.length c', dead, dead, dead, Iv (i : Nat)]) (fun _ => [dsR us, dsR vs]) (fun i => i ≤ us.length ∧ ∀ j, j < i → Zcv 32 (us.getD j d0) (vs.getD j d0) = true) (fun i => us.length - i) 0 ⟨by omega, fun j hj => by omega⟩ ?_ ?_
 ·refine Z5 (n := 2) rfl ?_ rfl ?_
  repeat (first | exact trivial | refine ⟨.inl rfl, ?_⟩ | refine ⟨.inr ⟨rfl, rfl⟩, ?_⟩)
  ·simp [dsR]
 ·rintro i ⟨hi, hall⟩
  by_cases hlt : i < us.length
  ·cases hs : Zcv 32 (us.getD i d0) (vs.getD i d0) with
   | true =>
    repeat (first
     | ((with_reducible apply Zad); rfl; rfl; exact (rfl : _ = Value.pointer (some ⟨_, _, _⟩)); first | exact Zcy (b := 0) (n := 32) rfl rfl (by omega) (Zga us i hlt) | exact Zcy (b := 1) (n := 32) rfl rfl (by omega) (Zga vs i (by omega)))
     | ((with_reducible apply Zl); rfl; rfl; exact (rfl : _ = Value.agg _); exact (rfl : _ = Value.agg _); refine Eq.trans (Zk1 (a := us.getD i d0) (b := vs.getD i d0) (by kernel_rfl) rfl rfl rfl) ?_; rw [hs])
     | ((with_reducible apply Zbe (j := i * 32)); rfl; rfl; exact (rfl : _ = Value.slice (some ⟨_, _, _⟩) _ _); (exact (rfl : _ = Value.int _ _)); (exact (rfl : _ = some (_, 32))); omega; omega; omega)
     | ((with_reducible apply Zac); rfl; rfl; (first
     | exact (rfl : _ = Value.int _ _)
     | exact (rfl : _ = Value.slice _ _ _)))
     | ((with_reducible apply Z3); rfl; rfl; (exact (rfl : _ = Value.int _ _)))
     | ((with_reducible apply Zl); rfl; rfl; (exact (rfl : _ = Value.int _ _)); (exact (rfl : _ = Value.int _ _)); (first
     | with_reducible exact Zcc (by omega)
     | with_reducible exact Za3 rfl (by omega) (by omega)))
     | ((with_reducible apply Zdm); rfl; rfl; (exact (rfl : _ = Value.slice _ _ _)); (exact (rfl : _ = some (Value.int _ _))))
     | with_reducible refine Za ?_
     | with_reducible refine Zg ?_
     | with_reducible refine Zf ?_
     | with_reducible refine Z1 ?_
     | with_reducible refine Z0 ?_
     | with_reducible refine Zc ?_
     | with_reducible refine Z4 ?_
     | (with_reducible refine Zb3 (by kernel_rfl) ?_)
     | (with_reducible refine Zc1 (by kernel_rfl) ?_)
     | ((with_reducible apply Zx); rfl)
     | ((with_reducible apply Zu); rfl))
    refine Zao ⟨i + 1, ⟨by omega, fun j hj => ?_⟩, by omega, ?_⟩
    ·rcases Nat.lt_or_ge j i with h | h
     ·exact hall j h
     ·rw [show j = i by omega]; exact hs
    ·refine Z5 (n := 2) rfl ?_ rfl ?_
     repeat (first | exact trivial | refine ⟨.inl rfl, ?_⟩ | refine ⟨.inr ⟨rfl, rfl⟩, ?_⟩)
     ·simp [dsR]
   | false =>
    repeat (first
     | ((with_reducible apply Zad); rfl; rfl; exact (rfl : _ = Value.pointer (some ⟨_, _, _⟩)); first | exact Zcy (b := 0) (n := 32) rfl rfl (by omega) (Zga us i hlt) | exact Zcy (b := 1) (n := 32) rfl rfl (by omega) (Zga vs i (by omega)))
     | ((with_reducible apply Zl); rfl; rfl; exact (rfl : _ = Value.agg _); exact (rfl : _ = Value.agg _); refine Eq.trans (Zk1 (a := us.getD i d0) (b := vs.getD i d0) (by kernel_rfl) rfl rfl rfl) ?_; rw [hs])
     | ((with_reducible apply Zbe (j := i * 32)); rfl; rfl; exact (rfl : _ = Value.slice (some ⟨_, _, _⟩) _ _); (exact (rfl : _ = Value.int _ _)); (exact (rfl : _ = some (_, 32))); omega; omega; omega)
     | ((with_reducible apply Zac); rfl; rfl; (first
     | exact (rfl : _ = Value.int _ _)
     | exact (rfl : _ = Value.slice _ _ _)))
     | ((with_reducible apply Z3); rfl; rfl; (exact (rfl : _ = Value.bool _)))
     | ((with_reducible apply Zl); rfl; rfl; (exact (rfl : _ = Value.int _ _)); (exact (rfl : _ = Value.int _ _)); (with_reducible exact Zcc (by omega)))
     | ((with_reducible apply Zdm); rfl; rfl; (exact (rfl : _ = Value.slice _ _ _)); (exact (rfl : _ = some (Value.int _ _))))
     | with_reducible refine Za ?_
     | with_reducible refine Zg ?_
     | with_reducible refine Zf ?_
     | with_reducible refine Z1 ?_
     | with_reducible refine Z0 ?_
     | with_reducible refine Zq ?_
     | with_reducible refine Zc ?_
     | with_reducible refine Zz ?_
     | with_reducible refine Za4 ?_
     | with_reducible refine Zd6 ?_
     | (with_reducible refine Zb3 (by kernel_rfl) ?_)
     | (with_reducible refine Zc1 (by kernel_rfl) ?_)
     | ((with_reducible apply Zx); rfl))
    refine Zr ?_
    refine Zk (v := .bool false) rfl rfl rfl hend (Zbm rfl ?_)
    have : Zki us vs = false := by
     unfold Zki
     rw [Bool.and_eq_false_iff]
     right
     rw [List.all_eq_false]
     exact ⟨i, by simpa using hlt, by rw [hs]; simp⟩
    rw [this]
  repeat (first
   | ((with_reducible apply Zac); rfl; rfl; (first
   | exact (rfl : _ = Value.int _ _)
   | exact (rfl : _ = Value.slice _ _ _)))
   | ((with_reducible apply Z3); rfl; rfl; (exact (rfl : _ = Value.bool _)))
   | ((with_reducible apply Zl); rfl; rfl; (exact (rfl : _ = Value.int _ _)); (exact (rfl : _ = Value.int _ _)); (with_reducible exact Zb5 (by omega)))
   | ((with_reducible apply Zdm); rfl; rfl; (exact (rfl : _ = Value.slice _ _ _)); (exact (rfl : _ = some (Value.int _ _))))
   | with_reducible refine Za ?_
   | with_reducible refine Zg ?_
   | with_reducible refine Zf ?_
   | with_reducible refine Zbb ?_
   | with_reducible refine Zq ?_
   | with_reducible refine Zc ?_
   | with_reducible refine Zaq ?_
   | with_reducible refine Zau ?_
   | ((with_reducible apply Zu); rfl)
   | ((with_reducible apply Zax); rfl))
  refine Zr ?_
  refine Zk (v := .bool true) rfl rfl rfl hend (Zbm rfl ?_)
  have : Zki us vs = true := by
   unfold Zki
   simp only [Bool.and_eq_true, beq_iff_eq, List.all_eq_true, List.mem_range]
   exact ⟨hl, fun j hj => hall j (by omega)⟩
  rw [this]
 repeat (first
  | ((with_reducible apply Zac); rfl; rfl; (exact (rfl : _ = Value.slice _ _ _)))
  | ((with_reducible apply Z3); rfl; rfl; (exact (rfl : _ = Value.bool _)))
  | ((with_reducible apply Zl); rfl; rfl; (exact (rfl : _ = Value.int _ _)); (exact (rfl : _ = Value.int _ _)); (with_reducible exact Zea (by omega)))
  | ((with_reducible apply Zdm); rfl; rfl; (exact (rfl : _ = Value.slice _ _ _)); (exact (rfl : _ = some (Value.int _ _))))
  | with_reducible refine Za ?_
  | with_reducible refine Zg ?_
  | with_reducible refine Zf ?_
  | with_reducible refine Zq ?_
  | with_reducible refine Zc ?_
  | with_reducible refine Zz ?_
  | ((with_reducible apply Zx); rfl))
 refine Zr ?_
 refine Zk (v := .bool false) rfl rfl rfl hend (Zbm rfl ?_)
 have : Zki us vs = false := by
  unfold Zki
  rw [Bool.and_eq_false_iff]
  left
  simpa using hl
 rw [this]
end Go.Flat
end
section
namespace Go.Flat
open Go.Proofs
variable {G : Glob}
theorem Z6u (Q : List D) (i : Nat) (d : D) (h : i < Q.length) : splice (dsC Q) (i * 32) (Zag w8 32 d) = dsC (Q.set i d) := by
 have e : Q = Q.take i ++ Q[i] :: Q.drop (i + 1) := by rw [← List.drop_eq_getElem_cons h, List.take_append_drop]
 have hl : (Q.take i).length = i := by simp; omega
 have h1 : (dsC Q).take (i * 32) = dsC (Q.take i) := by
  have := Zqm (Q.take i) (Q[i] :: Q.drop (i + 1))
  rw [← e, hl] at this; exact this
 have h2 : (dsC Q).drop (i * 32 + 32) = dsC (Q.drop (i + 1)) := by
  have := Zrk (Q.take (i + 1)) (Q.drop (i + 1))
  rw [List.take_append_drop] at this
  rw [show (Q.take (i + 1)).length = i + 1 from by simp; omega] at this
  rw [← this]; congr 1; omega
 unfold splice
 rw [h1, Zcf, h2, List.set_eq_take_append_cons_drop, if_pos h, Zis, Zhm, List.append_assoc]
theorem Zh8 {P : Program} {t : TypeId} {H : List Blk} {b o i : Nat} {blk : Blk} {Q : List D} {d : D} (hk : Zfo P t = some (true, 32)) (hb : H[b]? = some blk) (hw : blk.wr = true) (hc : blk.cells = dsC Q) (hi : i < Q.length) (ho : o = i * 32) :
  Zf2 P t H (.pointer (some ⟨b, o, none⟩)) (dgV d) = some (b, { blk with cells := dsC (Q.set i d) }) := by
 subst ho
 unfold Zf2
 rw [hk]
 simp only [hb, Option.bind_some, hw, hc]
 rw [if_pos]
 ·have e : (dgV d).cells.toList = Zag w8 32 d := rfl
  rw [e, Z6u Q i d hi]
 ·have h1 : (Zag w8 32 d).all Zb9 = true := Zoq d
  have h2 : (Zag w8 32 d).all Zjs = true := Zrc fun _ => rfl
  simp only [Bool.true_and, Bool.and_eq_true, decide_eq_true_eq, beq_iff_eq, Zb8]
  refine ⟨⟨by show (Zag w8 32 d).toArray.size = 32; simp [Zcf], ?_⟩, by omega⟩
  show Zd9 blk.pur (Zag w8 32 d) = true
  unfold Zd9
  split
  ·exact h1
  ·exact h2
def Zkt (P : List D) : Nat → List D
  | 0 => P
  | i + 1 => ((Zkt P i).set i ((Zkt P i).getD (P.length - 1 - i) d0)).set (P.length - 1 - i) ((Zkt P i).getD i d0)
theorem Zoc (P : List D) : ∀ i, (Zkt P i).length = P.length
 | 0 => rfl
 | i + 1 => by simp [Zkt, Zoc P i]
def dsM (b : Bool) (ds : List D) : Blk := { cells := dsC ds, sz := 32, wr := true, fix := false, mv := b, pur := true }
set_option maxHeartbeats 4000000 in
theorem Zwr (b : Bool) (P : List D) (c : Nat) (hn : P.length ≤ 1000000) :
  Z6 Tryz.prog G 65 [slv 0 0 P.length c] [dsM b P] (.tuple #[]) [dsM b (Zkt P (P.length / 2))] := by
 refine Za8 (fn := Tryz.f65) (nt := 28) rfl rfl rfl rfl ?_
 repeat (first
  | ((with_reducible apply Zac); rfl; rfl; (exact (rfl : _ = Value.slice _ _ _)))
  | ((with_reducible apply Z3); rfl; rfl; (exact (rfl : _ = Value.int _ _)))
  | ((with_reducible apply Zl); rfl; rfl; (exact (rfl : _ = Value.int _ _)); (exact (rfl : _ = Value.int _ _)); (with_reducible exact Zc4 rfl (by omega) (by omega)))
  | ((with_reducible apply Zdm); rfl; rfl; (exact (rfl : _ = Value.slice _ _ _)); (exact (rfl : _ = some (Value.int _ _))))
  | with_reducible refine Za ?_
  | with_reducible refine Zg ?_
  | with_reducible refine Zf ?_
  | with_reducible refine Z1 ?_
  | with_reducible refine Zc ?_)
 refine Zbg (fun i : Nat => [slv 0 0 P.length c, dead, Iv (i : Nat), Iv ((P.length : Int) - 1 - i)]) (fun i => [dsM b (Zkt P i)]) (fun i => i ≤ P.length / 2) (fun i => P.length - i) 0 (by omega) ?_ ?_
 ·refine Z5 (n := 1) rfl ?_ rfl ?_
  ·refine ⟨.inr ⟨rfl, rfl⟩, .inl rfl, .inr ⟨rfl, rfl⟩, .inr ⟨?_, rfl⟩, trivial⟩
   show Value.int .i64 ((P.length : Int) - 1 - (0 : Nat)) = Value.int .i64 ((P.length : Int) - 1)
   congr 1; omega
  ·simp [dsM]
 ·intro i hi
  have hQl := Zoc P i
  by_cases hlt : (i : Int) < (P.length : Int) - 1 - i
  ·have hQc : (dsM b (Zkt P i)).cells.length = P.length * 32 := by show (dsC _).length = _; rw [Zb8, hQl]
   have hati := Zga (Zkt P i) i (by omega)
   have hatj := Zga (Zkt P i) (P.length - 1 - i) (by omega)
   generalize hQ : Zkt P i = Q at hQl hQc hati hatj
   repeat (first
    | ((with_reducible apply Zad); rfl; rfl; exact (rfl : _ = Value.pointer (some ⟨_, _, _⟩)); first | exact Zcy (n := 32) rfl rfl (by omega) hati | exact Zcy (n := 32) rfl rfl (by omega) hatj)
    | ((with_reducible apply Zay); rfl; exact (rfl : _ = Value.pointer (some ⟨_, _, _⟩)); exact (rfl : _ = Value.agg _); (first
    | exact Zh8 (d := Q.getD (P.length - 1 - i) d0) (i := i) (Q := Q) rfl rfl rfl rfl (by omega) rfl
    | exact Zh8 (d := Q.getD i d0) (i := P.length - 1 - i) (Q := Q.set i (Q.getD (P.length - 1 - i) d0)) rfl rfl rfl rfl (by simp; omega) rfl); exact (rfl : _ = _ :: _))
    | ((with_reducible apply Zbe (j := i * 32)); rfl; rfl; exact (rfl : _ = Value.slice (some ⟨_, _, _⟩) _ _); (exact (rfl : _ = Value.int _ _)); (exact (rfl : _ = some (_, 32))); omega; omega; omega)
    | ((with_reducible apply Zbe (j := (P.length - 1 - i) * 32)); rfl; rfl; exact (rfl : _ = Value.slice (some ⟨_, _, _⟩) _ _); (exact (rfl : _ = Value.int _ _)); (exact (rfl : _ = some (_, 32))); omega; omega; omega)
    | ((with_reducible apply Zac); rfl; rfl; (first
    | exact (rfl : _ = Value.int _ _)
    | exact (rfl : _ = Value.slice _ _ _)))
    | ((with_reducible apply Z3); rfl; rfl; (exact (rfl : _ = Value.int _ _)))
    | ((with_reducible apply Zl); rfl; rfl; (exact (rfl : _ = Value.int _ _)); (exact (rfl : _ = Value.int _ _)); (first
    | with_reducible exact Zcc (by omega)
    | with_reducible exact Za3 rfl (by omega) (by omega)
    | with_reducible exact Zc4 rfl (by omega) (by omega)))
    | with_reducible refine Za ?_
    | with_reducible refine Zg ?_
    | with_reducible refine Zf ?_
    | with_reducible refine Z1 ?_
    | with_reducible refine Z0 ?_
    | with_reducible refine Zc ?_
    | with_reducible refine Z4 ?_
    | (with_reducible refine Zb3 (by kernel_rfl) ?_)
    | (with_reducible refine Zc1 (by kernel_rfl) ?_)
    | ((with_reducible apply Zx); rfl))
   subst hQ
   refine Zao ⟨i + 1, by omega, by omega, ?_⟩
   refine Z5 (n := 1) rfl ?_ rfl ?_
   ·refine ⟨.inr ⟨rfl, rfl⟩, .inl rfl, .inr ⟨rfl, rfl⟩, .inr ⟨?_, rfl⟩, trivial⟩
    show Value.int .i64 ((P.length : Int) - 1 - ((i + 1 : Nat) : Int)) = Value.int .i64 ((P.length : Int) - 1 - i - 1)
    congr 1; omega
   ·simp [dsM]
  ·have hie : i = P.length / 2 := by omega
   subst hie
   repeat (first
    | ((with_reducible apply Zac); rfl; rfl; (exact (rfl : _ = Value.int _ _)))
    | ((with_reducible apply Zl); rfl; rfl; (exact (rfl : _ = Value.int _ _)); (exact (rfl : _ = Value.int _ _)); (with_reducible exact Zb5 (by omega)))
    | with_reducible refine Za ?_
    | with_reducible refine Zg ?_
    | with_reducible refine Zf ?_
    | with_reducible refine Zbb ?_
    | with_reducible refine Zc ?_
    | with_reducible refine Zaq ?_
    | with_reducible refine Zau ?_
    | ((with_reducible apply Zu); rfl)
    | ((with_reducible apply Zax); rfl))
   refine Zk3 ?_
   refine Zk (v := .tuple #[]) rfl rfl rfl ?_ trivial
   simp [Za0, dsM]
end Go.Flat
end
section
namespace Go.Flat
open Go.Proofs
variable {G : Glob}
def Zgk (kk : Nat → BitVec 32) (f : Nat) (l : List D) (i : Nat) (down : List D) : List D :=
  match f with
  | 0 => down
  | f + 1 => if l.length ≤ 1 then down else
      let k := (Zdh l.length).toNat
      if i < k then Zgk kk f (l.take k) i (down ++ [Zby kk (l.drop k)]) else Zgk kk f (l.drop k) (i - k) (down ++ [Zby kk (l.take k)])
theorem Zd7 {n : Nat} (h : 2 ≤ n) : 1 ≤ (Zdh n).toNat ∧ (Zdh n).toNat < n ∧ Zdh n = ((Zdh n).toNat : Int) := by
 unfold Zdh
 rw [if_neg (by omega)]
 have hb : ((n : Int) - 1).toNat = n - 1 := by omega
 rw [hb]
 have h0 : n - 1 ≠ 0 := by omega
 have e : Zbj (n - 1) - 1 = (n - 1).log2 := by unfold Zbj; rw [if_neg h0]; rfl
 rw [e]
 have h1 := Nat.log2_self_le h0
 have h2 : (2 : Int) ^ (n - 1).log2 = ((2 ^ (n - 1).log2 : Nat) : Int) := by simp
 have h3 : 0 < 2 ^ (n - 1).log2 := Nat.pow_pos (by decide)
 rw [h2, Int.toNat_natCast]
 refine ⟨h3, by omega, rfl⟩
theorem Zgn (ds : List D) : (([dsR ds] : List Blk).all (Za0 ([dsR ds] : List Blk).length)) = true := by simp [Za0, dsR]
set_option maxHeartbeats 4000000 in
theorem Zr6 (ds : List D) (c : Nat) (i : Int) (h : i < 0 ∨ (ds.length : Int) ≤ i) :
  Z6 Tryz.prog G 37 [slv 0 0 ds.length c, Iv i] [dsR ds] (.tuple #[Zuw, Iv 20]) [dsR ds] := by
 refine Za8 (fn := Tryz.f37) (nt := 51) rfl rfl rfl rfl ?_
 by_cases h1 : i < 0
 repeat (first
  | ((with_reducible apply Zac); rfl; rfl; (first
  | exact (rfl : _ = Value.int _ _)
  | exact (rfl : _ = Value.bool _)))
  | ((with_reducible apply Z3); rfl; rfl; (first
  | exact (rfl : _ = Value.int _ _)
  | exact (rfl : _ = Value.slice _ _ _)))
  | ((with_reducible apply Zl); rfl; rfl; (exact (rfl : _ = Value.int _ _)); (exact (rfl : _ = Value.int _ _)); (with_reducible exact Zcc (by omega)))
  | ((with_reducible apply Zf3); rfl; rfl; (exact (rfl : _ = some (Value.bool _))))
  | ((with_reducible apply Zhs); rfl; rfl)
  | with_reducible refine Za ?_
  | with_reducible refine Zg ?_
  | with_reducible refine Zf ?_
  | with_reducible refine Zq ?_
  | with_reducible refine Zc ?_
  | with_reducible refine Zz ?_
  | ((with_reducible apply Zx); rfl))
 refine Zr ?_
 exact Zk (v := .tuple #[Zuw, Iv 20]) rfl rfl rfl (Zgn ds) ⟨rfl, rfl, trivial⟩
 repeat (first
  | ((with_reducible apply Zac); rfl; rfl; (first
  | exact (rfl : _ = Value.int _ _)
  | exact (rfl : _ = Value.bool _)
  | exact (rfl : _ = Value.slice _ _ _)))
  | ((with_reducible apply Z3); rfl; rfl; (first
  | exact (rfl : _ = Value.int _ _)
  | exact (rfl : _ = Value.slice _ _ _)))
  | ((with_reducible apply Zl); rfl; rfl; (exact (rfl : _ = Value.int _ _)); (exact (rfl : _ = Value.int _ _)); (first
  | with_reducible exact Zb5 (by omega)
  | with_reducible exact Zgm (by omega)))
  | ((with_reducible apply Zf3); rfl; rfl; (exact (rfl : _ = some (Value.bool _))))
  | ((with_reducible apply Zdm); rfl; rfl; (exact (rfl : _ = Value.slice _ _ _)); (exact (rfl : _ = some (Value.int _ _))))
  | with_reducible refine Za ?_
  | with_reducible refine Zg ?_
  | with_reducible refine Zf ?_
  | with_reducible refine Zq ?_
  | with_reducible refine Zc ?_
  | with_reducible refine Zz ?_
  | ((with_reducible apply Zx); rfl))
 refine Zr ?_
 exact Zk (v := .tuple #[Zuw, Iv 20]) rfl rfl rfl (Zgn ds) ⟨rfl, rfl, trivial⟩
end Go.Flat
end
section
namespace Go.Flat
open Go.Proofs
variable {G : Glob}
def sub (ds : List D) (o m : Nat) : List D := (ds.drop o).take m
theorem Zcr {ds : List D} {o m : Nat} (h : o + m ≤ ds.length) : (sub ds o m).length = m := by simp [sub]; omega
theorem Zu4 {ds : List D} {o m k : Nat} (h : k ≤ m) : (sub ds o m).take k = sub ds o k := by simp [sub, List.take_take, Nat.min_eq_left h]
theorem Zvx {ds : List D} {o m k : Nat} : (sub ds o m).drop k = sub ds (o + k) (m - k) := by simp [sub, List.drop_take]
theorem Zt8 {ds : List D} {o m : Nat} (h : o + m ≤ ds.length) : ((dsC ds).drop (o * 32)).take (m * 32) = dsC (sub ds o m) := by
 have e : ds = ds.take o ++ ds.drop o := (List.take_append_drop o ds).symm
 have h1 := Zrk (ds.take o) (ds.drop o)
 rw [← e, show (ds.take o).length = o from by simp; omega] at h1
 rw [h1]
 have h2 := Zqm ((ds.drop o).take m) ((ds.drop o).drop m)
 rw [List.take_append_drop, show ((ds.drop o).take m).length = m from by simp; omega] at h2
 exact h2
theorem Z6k (ds : List D) : sub ds 0 ds.length = ds := by simp [sub]
structure IncS where
  o : Nat
  m : Nat
  cap : Nat
  i : Nat
  f : Nat
  down : List D
set_option maxHeartbeats 8000000 in
theorem Zus (kk : Nat → BitVec 32) (hG : G 3 = some (Zag w32 64 kk)) (hG1 : G 1 = some (Zag u8N 64 dbF)) (ds : List D) (c i : Nat) (hn : ds.length ≤ 1000000) (hc : ds.length ≤ c) (hi : i < ds.length) :
  let down := Zgk kk ds.length ds i []
  Z6 Tryz.prog G 37 [slv 0 0 ds.length c, Iv (i : Nat)] [dsR ds] (.tuple #[slv 1 0 down.length down.length, Iv 0]) [dsR ds, dsB (Zkt down (down.length / 2))] := by
 intro down
 refine Za8 (fn := Tryz.f37) (nt := 51) rfl rfl rfl rfl ?_
 repeat (first
  | ((with_reducible apply Zac); rfl; rfl; (first
  | exact (rfl : _ = Value.int _ _)
  | exact (rfl : _ = Value.bool _)
  | exact (rfl : _ = Value.slice _ _ _)))
  | ((with_reducible apply Z3); rfl; rfl; (first
  | exact (rfl : _ = Value.int _ _)
  | exact (rfl : _ = Value.slice _ _ _)))
  | ((with_reducible apply Zl); rfl; rfl; (exact (rfl : _ = Value.int _ _)); (exact (rfl : _ = Value.int _ _)); (first
  | with_reducible exact Zb5 (by omega)
  | with_reducible exact Zg1 (by omega)))
  | ((with_reducible apply Zf3); rfl; rfl; (exact (rfl : _ = some (Value.bool _))))
  | ((with_reducible apply Zdm); rfl; rfl; (exact (rfl : _ = Value.slice _ _ _)); (exact (rfl : _ = some (Value.int _ _))))
  | with_reducible refine Za ?_
  | with_reducible refine Zg ?_
  | with_reducible refine Zf ?_
  | with_reducible refine Z1 ?_
  | with_reducible refine Z0 ?_
  | with_reducible refine Zc ?_
  | ((with_reducible apply Zu); rfl))
 refine Zbo (Zb6.nilTmp (i := 6) (b := 1) true 32 rfl (by decide) rfl) ?_
 refine Zbg (fun x : IncS => [slv 0 (x.o * 32) x.m x.cap, Iv (x.i : Nat), dead, dead, dead, dead, slv 1 0 x.down.length x.down.length]) (fun x => [dsR ds, dsB x.down])
  (fun x => x.o + x.m ≤ ds.length ∧ x.m ≤ x.cap ∧ x.i < x.m ∧ x.down.length + x.m ≤ ds.length ∧ x.m ≤ x.f + 1 ∧ Zgk kk x.f (sub ds x.o x.m) x.i x.down = down) (fun x => x.m) ⟨0, ds.length, c, i, ds.length, []⟩ ⟨by simp, hc, hi, by simp, by simp, by rw [Z6k]⟩ ?_ ?_
 ·refine Z5 (n := 2) rfl ?_ rfl ?_
  repeat (first | exact trivial | refine ⟨.inl rfl, ?_⟩ | refine ⟨.inr ⟨rfl, rfl⟩, ?_⟩)
  ·simp [dsR, dsB]
 ·rintro ⟨o, m, cap, i, f, dn⟩ ⟨h1, h2, h3, h4, h5, h6⟩
  dsimp only at h1 h2 h3 h4 h5 h6 ⊢
  have hDc : (dsB dn).cells.length = dn.length * 32 := Zb8 dn
  by_cases hm : 1 < m
  ·obtain ⟨s1, s2, s3⟩ := Zd7 (n := m) (by omega)
   have hS := Zrq (G := G) (m : Int) (by omega)
   rw [s3] at hS
   generalize hk : (Zdh (m : Int)).toNat = k at hS s1 s2
   by_cases hik : i < k
   ·have hR := Ztt (G := G) kk hG hG1 (sub ds (o + k) (m - k)) (cap - k) (by rw [Zcr (by omega)]; omega) (by rw [Zcr (by omega)]; omega)
    rw [Zcr (by omega)] at hR
    have hE1 : (o + k) * 32 + (dsR (sub ds (o + k) (m - k))).cells.length ≤ (dsR ds).cells.length := by
     show _ + (dsC _).length ≤ (dsC _).length
     rw [Zb8, Zb8, Zcr (by omega)]; omega
    have hE2 : ((dsR ds).cells.drop ((o + k) * 32)).take (dsR (sub ds (o + k) (m - k))).cells.length = Zdi [some (0, (o + k) * 32)] (dsR (sub ds (o + k) (m - k))) := by
     show ((dsC ds).drop ((o + k) * 32)).take (dsC (sub ds (o + k) (m - k))).length = dsC (sub ds (o + k) (m - k))
     rw [Zb8, Zcr (by omega)]
     exact Zt8 (by omega)
    have hcat : List.take (dn.length * 32) (List.drop 0 (dsC dn)) ++ Zag w8 32 (Zby kk (sub ds (o + k) (m - k))) = dsC (dn ++ [Zby kk (sub ds (o + k) (m - k))]) := by
     rw [List.drop_zero, List.take_of_length_le (by rw [Zb8]; exact Nat.le_refl _), Zis, Zhm]; simp [dsC]
    have hl1 : (dn ++ [Zby kk (sub ds (o + k) (m - k))]).length = dn.length + 1 := by simp
    obtain ⟨f, rfl⟩ : ∃ f', f = f' + 1 := ⟨f - 1, by omega⟩
    refine Zaa 1 (H' := [dsR ds, dsB dn, hole]) rfl ?_
    repeat (first
     | ((with_reducible apply Zc7); rfl; rfl; exact (rfl : _ = Value.slice (some ⟨_, _, _⟩) _ _); rfl; rfl; first | exact Zfv (h := k) rfl rfl rfl (by omega) rfl | exact Zjv (l := k) (sz := 32) (j := (o + k) * 32) (m := m - k) (c' := cap - k) rfl rfl rfl rfl (by omega) (by omega) rfl (by omega) (by omega) (by omega))
     | ((with_reducible apply Z2 (e := [some (0, (o + k) * 32)]) (nid := 0) hR); rfl; rfl; rfl; rfl; rfl; rfl; rfl; refine ⟨⟨⟨rfl, rfl, rfl, Nat.le_refl _, by omega⟩, trivial⟩, ⟨Zeb rfl rfl hE1 hE2, trivial⟩, rfl, rfl, rfl⟩; exact (rfl : _ = Value.agg _); exact (rfl : _ = _ :: _))
     | ((with_reducible apply Zdb (nid := 2)); rfl; rfl; rfl; exact (rfl : _ = some (Value.slice _ _ _, _)); exact (rfl : _ = _ :: _))
     | ((with_reducible apply Zbp); rfl; rfl; rfl; exact .inl ⟨_, rfl⟩; exact (rfl : _ = Value.slice (some ⟨_, _, _⟩) _ _); exact (rfl : _ = Value.slice (some ⟨_, _, _⟩) _ _); exact Zey (n' := (dn ++ [Zby kk (sub ds (o + k) (m - k))]).length) (rfl : _ = some (32, _, 32)) (rfl : _ = some (1, _)) rfl rfl rfl rfl rfl (by rw [hDc]; omega) (by decide) hl1.symm (by omega); rfl; exact (rfl : _ = _ :: _))
     | ((with_reducible apply Zac); rfl; rfl; (first
     | exact (rfl : _ = Value.int _ _)
     | exact (rfl : _ = Value.slice _ _ _)))
     | ((with_reducible apply Z3); rfl; rfl; (first
     | exact (rfl : _ = Value.int _ _)
     | exact (rfl : _ = Value.slice _ _ _)))
     | ((with_reducible apply Zl); rfl; rfl; (exact (rfl : _ = Value.int _ _)); (exact (rfl : _ = Value.int _ _)); (first
     | with_reducible exact Zcc (by omega)
     | with_reducible exact Zes (by omega)))
     | ((with_reducible apply Zdm); rfl; rfl; (exact (rfl : _ = Value.slice _ _ _)); (exact (rfl : _ = some (Value.int _ _))))
     | ((with_reducible apply Zo (hS)); rfl; rfl; rfl; rfl; rfl; (exact (rfl : _ = Value.int _ _)))
     | with_reducible refine Za ?_
     | with_reducible refine Zg ?_
     | with_reducible refine Zf ?_
     | with_reducible refine Z1 ?_
     | with_reducible refine Z0 ?_
     | with_reducible refine Zc ?_
     | with_reducible refine Z4 ?_
     | ((with_reducible apply Zx); rfl))
    refine Zao ⟨⟨o, k, cap, i, f, dn ++ [Zby kk (sub ds (o + k) (m - k))]⟩, ⟨?_, ?_, ?_, ?_, ?_, ?_⟩, ?_, ?_⟩ <;> dsimp only
    ·omega
    ·omega
    ·omega
    ·rw [hl1]; omega
    ·omega
    ·rw [← h6]
     have hsl := Zcr (ds := ds) (o := o) (m := m) h1
     conv => rhs; unfold Zgk
     rw [if_neg (by omega)]
     simp only [hsl, hk]
     rw [if_pos hik, Zu4 (by omega), Zvx]
    ·omega
    ·refine Z5 (n := 2) rfl ?_ ?_ ?_
     ·refine ⟨.inr ⟨?_, rfl⟩, .inr ⟨?_, rfl⟩, .inl rfl, .inl rfl, .inl rfl, .inl rfl, .inr ⟨rfl, rfl⟩, trivial⟩
      ·rfl
      ·first | rfl | (show Value.int .i64 ((i - k : Nat) : Int) = Value.int .i64 ((i : Int) - k); congr 1; omega)
     ·exact congrArg (fun q => [dsR ds, ({ cells := q, sz := 32, wr := true, fix := false, mv := true, pur := true } : Blk)]) hcat
     ·simp [dsR, dsB]
   ·have hR := Ztt (G := G) kk hG hG1 (sub ds (o) (k)) (cap) (by rw [Zcr (by omega)]; omega) (by rw [Zcr (by omega)]; omega)
    rw [Zcr (by omega)] at hR
    have hE1 : (o) * 32 + (dsR (sub ds (o) (k))).cells.length ≤ (dsR ds).cells.length := by
     show _ + (dsC _).length ≤ (dsC _).length
     rw [Zb8, Zb8, Zcr (by omega)]; omega
    have hE2 : ((dsR ds).cells.drop ((o) * 32)).take (dsR (sub ds (o) (k))).cells.length = Zdi [some (0, (o) * 32)] (dsR (sub ds (o) (k))) := by
     show ((dsC ds).drop ((o) * 32)).take (dsC (sub ds (o) (k))).length = dsC (sub ds (o) (k))
     rw [Zb8, Zcr (by omega)]
     exact Zt8 (by omega)
    have hcat : List.take (dn.length * 32) (List.drop 0 (dsC dn)) ++ Zag w8 32 (Zby kk (sub ds (o) (k))) = dsC (dn ++ [Zby kk (sub ds (o) (k))]) := by
     rw [List.drop_zero, List.take_of_length_le (by rw [Zb8]; exact Nat.le_refl _), Zis, Zhm]; simp [dsC]
    have hl1 : (dn ++ [Zby kk (sub ds (o) (k))]).length = dn.length + 1 := by simp
    obtain ⟨f, rfl⟩ : ∃ f', f = f' + 1 := ⟨f - 1, by omega⟩
    refine Zaa 1 (H' := [dsR ds, dsB dn, hole]) rfl ?_
    repeat (first
     | ((with_reducible apply Zc7); rfl; rfl; exact (rfl : _ = Value.slice (some ⟨_, _, _⟩) _ _); rfl; rfl; first | exact Zfv (h := k) rfl rfl rfl (by omega) rfl | exact Zjv (l := k) (sz := 32) (j := (o + k) * 32) (m := m - k) (c' := cap - k) rfl rfl rfl rfl (by omega) (by omega) rfl (by omega) (by omega) (by omega))
     | ((with_reducible apply Z2 (e := [some (0, (o) * 32)]) (nid := 0) hR); rfl; rfl; rfl; rfl; rfl; rfl; rfl; refine ⟨⟨⟨rfl, rfl, rfl, Nat.le_refl _, by omega⟩, trivial⟩, ⟨Zeb rfl rfl hE1 hE2, trivial⟩, rfl, rfl, rfl⟩; exact (rfl : _ = Value.agg _); exact (rfl : _ = _ :: _))
     | ((with_reducible apply Zdb (nid := 2)); rfl; rfl; rfl; exact (rfl : _ = some (Value.slice _ _ _, _)); exact (rfl : _ = _ :: _))
     | ((with_reducible apply Zbp); rfl; rfl; rfl; exact .inl ⟨_, rfl⟩; exact (rfl : _ = Value.slice (some ⟨_, _, _⟩) _ _); exact (rfl : _ = Value.slice (some ⟨_, _, _⟩) _ _); exact Zey (n' := (dn ++ [Zby kk (sub ds (o) (k))]).length) (rfl : _ = some (32, _, 32)) (rfl : _ = some (1, _)) rfl rfl rfl rfl rfl (by rw [hDc]; omega) (by decide) hl1.symm (by omega); rfl; exact (rfl : _ = _ :: _))
     | ((with_reducible apply Zac); rfl; rfl; (first
     | exact (rfl : _ = Value.int _ _)
     | exact (rfl : _ = Value.slice _ _ _)))
     | ((with_reducible apply Z3); rfl; rfl; (first
     | exact (rfl : _ = Value.int _ _)
     | exact (rfl : _ = Value.slice _ _ _)))
     | ((with_reducible apply Zl); rfl; rfl; (exact (rfl : _ = Value.int _ _)); (exact (rfl : _ = Value.int _ _)); (first
     | with_reducible exact Zb5 (by omega)
     | with_reducible exact Zes (by omega)
     | with_reducible exact Zc4 rfl (by omega) (by omega)))
     | ((with_reducible apply Zdm); rfl; rfl; (exact (rfl : _ = Value.slice _ _ _)); (exact (rfl : _ = some (Value.int _ _))))
     | ((with_reducible apply Zo (hS)); rfl; rfl; rfl; rfl; rfl; (exact (rfl : _ = Value.int _ _)))
     | with_reducible refine Za ?_
     | with_reducible refine Zg ?_
     | with_reducible refine Zf ?_
     | with_reducible refine Z1 ?_
     | with_reducible refine Z0 ?_
     | with_reducible refine Zc ?_
     | with_reducible refine Z4 ?_
     | ((with_reducible apply Zx); rfl)
     | ((with_reducible apply Zu); rfl))
    refine Zao ⟨⟨o + k, m - k, cap - k, i - k, f, dn ++ [Zby kk (sub ds (o) (k))]⟩, ⟨?_, ?_, ?_, ?_, ?_, ?_⟩, ?_, ?_⟩ <;> dsimp only
    ·omega
    ·omega
    ·omega
    ·rw [hl1]; omega
    ·omega
    ·rw [← h6]
     have hsl := Zcr (ds := ds) (o := o) (m := m) h1
     conv => rhs; unfold Zgk
     rw [if_neg (by omega)]
     simp only [hsl, hk]
     rw [if_neg hik, Zu4 (by omega), Zvx]
    ·omega
    ·refine Z5 (n := 2) rfl ?_ ?_ ?_
     ·refine ⟨.inr ⟨?_, rfl⟩, .inr ⟨?_, rfl⟩, .inl rfl, .inl rfl, .inl rfl, .inl rfl, .inr ⟨rfl, rfl⟩, trivial⟩
      ·rfl
      ·first | rfl | (show Value.int .i64 ((i - k : Nat) : Int) = Value.int .i64 ((i : Int) - k); congr 1; omega)
     ·exact congrArg (fun q => [dsR ds, ({ cells := q, sz := 32, wr := true, fix := false, mv := true, pur := true } : Blk)]) hcat
     ·simp [dsR, dsB]
  ·have hm1 : m = 1 := by omega
   have hdn : down = dn := by
    rw [← h6]
    cases f with
    | zero => rfl
    | succ f => unfold Zgk; rw [if_pos (by rw [Zcr h1]; omega)]
   repeat (first
    | ((with_reducible apply Z2 (e := [some (1, 0)]) (nid := 0) (Zwr (G := G) false dn dn.length (by omega))); rfl; rfl; rfl; rfl; rfl; rfl; rfl; refine ⟨⟨⟨rfl, rfl, rfl, Nat.le_refl _, Nat.le_refl _⟩, trivial⟩, ⟨Zbd rfl rfl rfl rfl, trivial⟩, rfl, rfl, rfl⟩; exact (rfl : _ = Value.tuple _); exact (rfl : _ = _ :: _))
    | ((with_reducible apply Zac); rfl; rfl; (exact (rfl : _ = Value.slice _ _ _)))
    | ((with_reducible apply Z3); rfl; rfl; (first
    | exact (rfl : _ = Value.int _ _)
    | exact (rfl : _ = Value.slice _ _ _)))
    | ((with_reducible apply Zl); rfl; rfl; (exact (rfl : _ = Value.int _ _)); (exact (rfl : _ = Value.int _ _)); (with_reducible exact Zeq (by omega)))
    | ((with_reducible apply Zdm); rfl; rfl; (exact (rfl : _ = Value.slice _ _ _)); (exact (rfl : _ = some (Value.int _ _))))
    | with_reducible refine Za ?_
    | with_reducible refine Zg ?_
    | with_reducible refine Zf ?_
    | with_reducible refine Zbb ?_
    | with_reducible refine Zq ?_
    | with_reducible refine Zc ?_
    | with_reducible refine Zaq ?_
    | with_reducible refine Zau ?_
    | ((with_reducible apply Zu); rfl)
    | ((with_reducible apply Zax); rfl))
   refine Zr ?_
   rw [hdn]
   refine Zk (v := .tuple #[slv 1 0 dn.length dn.length, Iv 0]) rfl rfl rfl ?_ ?_
   ·simp [Za0, dsR, dsB]
   ·exact ⟨⟨rfl, Nat.zero_add _ ▸ rfl, rfl, Nat.le_refl _, Nat.le_refl _⟩, rfl, trivial⟩
end Go.Flat
end
section
namespace Go.Flat
open Go.Proofs
variable {G : Glob}
end Go.Flat
end
section
namespace Go.Flat
open Go.Proofs
variable {G : Glob}
def Z0w (kk : Nat → BitVec 32) (f : Nat) (l : List D) (m : Nat) (kn : Bool) (down : List D) : List D :=
  match f with
  | 0 => if kn then down else down ++ [Zby kk l]
  | f + 1 => if l.length ≤ m then (if kn then down else down ++ [Zby kk l]) else
      let k := (Zdh l.length).toNat
      if m ≤ k then Z0w kk f (l.take k) m kn (down ++ [Zby kk (l.drop k)]) else Z0w kk f (l.drop k) (m - k) false (down ++ [Zby kk (l.take k)])
structure ConS where
  o : Nat
  m : Nat
  cap : Nat
  i : Nat
  kn : Bool
  f : Nat
  down : List D
end Go.Flat
end
section
namespace Go.Flat
open Go.Proofs
variable {G : Glob}
theorem Z6t {H : List Blk} {b : Nat} {B : Blk} (ds : List D) (c : Nat) (hb : H[b]? = some B) (hc : B.cells = dsC ds) : Zgh H 32 (slv b 0 ds.length c) = some (ds.length, dsC ds) := by
 unfold Zgh
 simp only [hb, Option.bind_some, hc, Nat.zero_add, List.drop_zero]
 rw [if_pos (by rw [Zb8]; exact Nat.le_refl _), List.take_of_length_le (by rw [Zb8]; exact Nat.le_refl _)]
end Go.Flat
end
section
namespace Go.Flat
open Go.Proofs
variable {G : Glob}
def dg1 (k : Nat) : D := fun i => if i = 0 then BitVec.ofNat 8 k else 0
theorem Zvh (us : List D) : Zki us us = true := by
 unfold Zki
 simp only [Bool.and_eq_true, beq_iff_eq, List.all_eq_true, List.mem_range]
 refine ⟨trivial, ?_⟩
 intro i hi
 simp [Zcv]
theorem root1 (kk : Nat → BitVec 32) (a : D) : Zby kk [a] = a := by rfl
theorem Zjn (ds : List D) : ((dsC ds).drop 0).take (dsC ds).length = dsC ds := by simp
theorem Zyw {H : List Blk} {e : Emb} {id : Nat} {ds : List D} (hB : H[id]? = some (dsB ds)) : Zek H e (some (id, 0)) (dsR ds) :=
 Zeb hB rfl (by show 0 + (dsC _).length ≤ (dsC _).length; omega) (Zjn _)
theorem Zmr (n : Nat) (a : D) : Zcv n a a = true := by simp [Zcv]
end Go.Flat
end
