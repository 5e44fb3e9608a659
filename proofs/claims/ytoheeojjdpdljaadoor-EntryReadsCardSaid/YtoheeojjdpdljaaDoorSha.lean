/- Walks. -/
import Derived.Test.YtoheeojjdpdljaaDoorFlatC
import Derived.Test.YtoheeojjdpdljaaDoorProg
set_option maxRecDepth 20000
set_option linter.unusedVariables false
set_option linter.unusedSimpArgs false
section
namespace Go.Flat
open Go.Proofs
variable {G : Glob}
def rot (x : BitVec 32) (n : Nat) : BitVec 32 := x <<< n ||| x >>> (32 - n)

theorem Z3s (k : Int) : (BitVec.ofInt 64 k &&& BitVec.ofInt 64 31).toNat = (k % 32).toNat := by
 have h31 : (BitVec.ofInt 64 31).toNat = 2 ^ 5 - 1 := rfl
 rw [BitVec.toNat_and, h31, Nat.and_two_pow_sub_one_eq_mod, BitVec.toNat_ofInt]
 omega
theorem Zwn (x : BitVec 32) (k : Int) : Zao Tryd.prog G 104 [w32 x, Iv k] [] (w32 (rot x (k % 32).toNat)) [] := by
 refine Zbv (fn := Tryd.f104) (nt := 17) rfl rfl rfl rfl ?_
 repeat (first
  | ((with_reducible apply Zd); rfl; rfl; (exact (rfl : _ = Value.int _ _)))
  | ((with_reducible apply Zb); rfl; rfl; (exact (rfl : _ = Value.int _ _)))
  | ((with_reducible apply Zn); rfl; rfl; (exact (rfl : _ = Value.int _ _)); (exact (rfl : _ = Value.int _ _)); (first
  | with_reducible exact Z5r (by first | exact ofI _ _ | rfl) (by first | exact ofI _ _ | rfl)
  | with_reducible exact Z3q (by first | exact ofI _ _ | rfl) (by omega)
  | with_reducible exact Z1x (by omega)
  | with_reducible exact Z54 (by first | exact ofI _ _ | rfl) (by first | exact ofI _ _ | rfl)
  | with_reducible exact Z5u (by first | exact ofI _ _ | rfl) (by first | exact ofI _ _ | rfl)))
  | ((with_reducible apply Zdb); rfl; rfl; (exact (rfl : _ = Value.int _ _)); (exact Z0h rfl rfl (by first | exact Zmy _ | rfl)))
  | with_reducible refine Za ?_
  | with_reducible refine Zi ?_
  | with_reducible refine Zg ?_
  | with_reducible refine Zv ?_
  | with_reducible refine Zc ?_)
 refine Zu ?_
 refine Znj (v := .int _ _) rfl rfl ?_
 have h2 : (BitVec.ofInt 64 32 - (BitVec.ofInt 64 k &&& BitVec.ofInt 64 31)).toNat = 32 - (k % 32).toNat := by
  have h3 := Z3s k
  have h32 : (BitVec.ofInt 64 32).toNat = 32 := rfl
  rw [BitVec.toNat_sub, h3, h32]
  omega
 simp only [Int.toNat_natCast, h2, Z3s, rot]
def Zon (x : BitVec 32) (a b : Int) (z : BitVec 32) : BitVec 32 := rot x ((0 - a) % 32).toNat ^^^ rot x ((0 - b) % 32).toNat ^^^ z
theorem Zmi (x : BitVec 32) (a b : Int) (z : BitVec 32) (ha : 0 ≤ a ∧ a ≤ 32) (hb : 0 ≤ b ∧ b ≤ 32) : Zao Tryd.prog G 103 [w32 x, Iv a, Iv b, w32 z] [] (w32 (Zon x a b z)) [] := by
 refine Zbv (fn := Tryd.f103) (nt := 20) rfl rfl rfl rfl ?_
 repeat (first
  | ((with_reducible apply Zd); rfl; rfl; (exact (rfl : _ = Value.int _ _)))
  | ((with_reducible apply Zb); rfl; rfl; (exact (rfl : _ = Value.int _ _)))
  | ((with_reducible apply Zn); rfl; rfl; (exact (rfl : _ = Value.int _ _)); (exact (rfl : _ = Value.int _ _)); (with_reducible exact Z3v (by first | exact ofI _ _ | rfl) (by first | exact ofI _ _ | rfl)))
  | ((with_reducible apply Zef); rfl; rfl; (exact (rfl : _ = Value.int _ _)); (exact Z4o rfl (by omega) (by omega)))
  | ((with_reducible apply Zs (Zwn _ _)); rfl; rfl; rfl; rfl; rfl; (exact (rfl : _ = Value.int _ _)))
  | with_reducible refine Za ?_
  | with_reducible refine Zi ?_
  | with_reducible refine Zg ?_
  | with_reducible refine Zv ?_
  | with_reducible refine Zc ?_)
 refine Zu ?_
 exact Znj (v := .int _ _) rfl rfl rfl
end Go.Flat
end
section
namespace Go.Flat
open Go.Proofs
variable {G : Glob}
def inB (w : Nat → BitVec 32) (i : Nat) (x : BitVec 8) : Nat → BitVec 32 := Zha w (i / 4) (w (i / 4) <<< 8 ||| x.setWidth 32)
def Zn2 (b : Nat → BitVec 8) : Nat → Nat → BitVec 32
  | 0 => fun _ => 0
  | i + 1 => inB (Zn2 b i) i (b i)
def Z5j (k : BitVec 32) (v w : Nat → BitVec 32) (t : Nat) : BitVec 32 := v 7 + Zon (v 4) 6 11 (rot (v 4) ((-25 : Int) % 32).toNat) + (v 6 ^^^ (v 4 &&& (v 5 ^^^ v 6))) + k + w (t % 16)
def Z5y (v : Nat → BitVec 32) : BitVec 32 := Zon (v 0) 2 13 (rot (v 0) ((-22 : Int) % 32).toNat) + ((v 0 &&& v 1) ^^^ (v 0 &&& v 2) ^^^ (v 1 &&& v 2))
def Z3x (p q : BitVec 32) (v : Nat → BitVec 32) : Nat → BitVec 32 := fun k => if k = 0 then p + q else if k = 4 then v 3 + p else v (k - 1)
def Z5i (w : Nat → BitVec 32) (t : Nat) : Nat → BitVec 32 := Zha w (t % 16) (w (t % 16) + (w ((t + 9) % 16) + Zon (w ((t + 1) % 16)) 7 18 (w ((t + 1) % 16) >>> 3) + Zon (w ((t + 14) % 16)) 17 19 (w ((t + 14) % 16) >>> 10)))
def Zt1 (kk : Nat → BitVec 32) (v w : Nat → BitVec 32) : Nat → (Nat → BitVec 32) × (Nat → BitVec 32)
  | 0 => (v, w)
  | t + 1 => let p := Zt1 kk v w t; (Z3x (Z5j (kk t) p.1 p.2 t) (Z5y p.1) p.1, Z5i p.2 t)
def Zzm (v V : Nat → BitVec 32) : Nat → Nat → BitVec 32
  | 0 => v
  | i + 1 => Zha (Zzm v V i) i (Zzm v V i i + V i)
def Z42 (kk : Nat → BitVec 32) (v : Nat → BitVec 32) (b : Nat → BitVec 8) : Nat → BitVec 32 := Zzm v (Zt1 kk v (Zn2 b 64) 64).1 8

abbrev pt (b o : Nat) : Value := .pointer (some ⟨b, o, none⟩)
abbrev sl (b o n c : Nat) : Value := .slice (some ⟨b, o, none⟩) n c
def stB (v : Nat → BitVec 32) (r n : Value) : Blk := { cells := Zbx w32 8 v ++ [r, n], sz := 10, wr := true, fix := true, mv := false, pur := false }
def byB (n : Nat) (b : Nat → BitVec 8) : Blk := { cells := Zbx w8 n b, sz := 1, wr := false, fix := false, mv := true, pur := true }
def wB (w : Nat → BitVec 32) : Blk := { cells := Zbx w32 16 w, sz := 16, wr := true, fix := true, mv := false, pur := true }
def vB (v : Nat → BitVec 32) : Blk := { cells := Zbx w32 8 v, sz := 8, wr := true, fix := true, mv := false, pur := true }

set_option maxHeartbeats 4000000 in
theorem Zzq (kk : Nat → BitVec 32) (hG : G 1 = some (Zbx w32 64 kk)) (v : Nat → BitVec 32) (b : Nat → BitVec 8) (m c c' : Nat) (n : BitVec 64) :
  Zao Tryd.prog G 95 [pt 0 0, sl 1 0 64 c'] [stB v (sl 1 0 m c) (w64 n), byB 64 b] (.tuple #[]) [stB (Z42 kk v b) (sl 1 0 m c) (w64 n), byB 64 b] := by
 refine Zbv (fn := Tryd.f95) (nt := 156) rfl rfl rfl rfl ?_
 refine Zat 2 (H' := [stB v (sl 1 0 m c) (w64 n), byB 64 b, hole, hole]) rfl ?_
 repeat (first
  | ((with_reducible apply Zd); rfl; rfl; (first
  | exact (rfl : _ = Value.int _ _)
  | exact (rfl : _ = Value.slice _ _ _)))
  | ((with_reducible apply Zb7); rfl; rfl; (exact (rfl : _ = Value.slice _ _ _)); (exact (rfl : _ = some (Value.int _ _))))
  | ((with_reducible apply Zae (nid := 2)); rfl; rfl; rfl; exact (rfl : _ = _ :: _))
  | with_reducible refine Za ?_
  | with_reducible refine Zi ?_
  | with_reducible refine Zg ?_
  | with_reducible refine Zap ?_
  | with_reducible refine Zc ?_)
 refine Zb8 (fun i => [pt 0 0, sl 1 0 64 c', dead, dead, pt 2 0] ++ List.replicate 13 dead ++ [sl 1 0 64 c', Iv 64, Iv (i : Nat)]) (fun i : Nat => [stB v (sl 1 0 m c) (w64 n), byB 64 b, wB (Zn2 b i), hole]) (fun i => i ≤ 64) (fun i => 64 - i) 0 (by omega) ?_ ?_
 ·refine Zaq (n := 4) rfl ?_ rfl ?_
  repeat (first | exact trivial | refine ⟨.inl rfl, ?_⟩ | refine ⟨.inr ⟨rfl, rfl⟩, ?_⟩)
  ·rfl
 ·intro i hi
  by_cases hlt : i < 64
  repeat (first
   | ((with_reducible apply Ze7 (j := i / 4)); rfl; rfl; exact (rfl : _ = Value.pointer (some ⟨_, _, _⟩)); (exact (rfl : _ = Value.int _ _)); (exact (rfl : _ = some (_, 1))); omega; omega; omega)
   | ((with_reducible apply Zbk (j := i)); rfl; rfl; exact (rfl : _ = Value.slice (some ⟨_, _, _⟩) _ _); (exact (rfl : _ = Value.int _ _)); (exact (rfl : _ = some (_, 1))); omega; omega; omega)
   | ((with_reducible apply Zd); rfl; rfl; (exact (rfl : _ = Value.int _ _)))
   | ((with_reducible apply Zb); rfl; rfl; (exact (rfl : _ = Value.int _ _)))
   | ((with_reducible apply Zn); rfl; rfl; (exact (rfl : _ = Value.int _ _)); (exact (rfl : _ = Value.int _ _)); (first
   | with_reducible exact Zdt (by omega)
   | with_reducible exact Za7 rfl (by omega) (by omega)
   | with_reducible exact Z5r (by first | exact ofI _ _ | rfl) (by first | exact ofI _ _ | rfl)
   | with_reducible exact Z3q (by first | exact ofI _ _ | rfl) (by omega)
   | with_reducible exact Ztl (by omega) (by omega) (by omega)))
   | ((with_reducible apply Zdb); rfl; rfl; (exact (rfl : _ = Value.int _ _)); (exact Z4c rfl rfl (by first | exact Zmy _ | rfl)))
   | ((with_reducible apply Zo); rfl; rfl; exact (rfl : _ = Value.pointer (some ⟨_, _, _⟩)); (exact Zq0 rfl rfl rfl (by omega) (fun _ => rfl)))
   | ((with_reducible apply Zr); rfl; exact (rfl : _ = Value.pointer (some ⟨_, _, _⟩)); (exact (rfl : _ = Value.int _ _)); (exact Zhv rfl rfl rfl rfl rfl (by omega) rfl rfl); exact (rfl : _ = _ :: _))
   | with_reducible refine Za ?_
   | with_reducible refine Zi ?_
   | with_reducible refine Zg ?_
   | with_reducible refine Zap ?_
   | with_reducible refine Zai ?_
   | with_reducible refine Zc ?_
   | with_reducible refine Z1 ?_
   | ((with_reducible apply Z0); rfl))
  refine Zau ⟨i + 1, by omega, by omega, ?_⟩
  refine Zaq (n := 4) rfl ?_ ?_ ?_ <;> try rfl
  repeat (first | exact trivial | refine ⟨.inl rfl, ?_⟩ | refine ⟨.inr ⟨rfl, rfl⟩, ?_⟩)
  ·obtain rfl : i = 64 := by omega
   repeat (first
    | ((with_reducible apply Zo); rfl; rfl; exact (rfl : _ = Value.pointer (some ⟨_, _, _⟩)); exact Zu9 rfl hG rfl)
    | ((with_reducible apply Zd); rfl; rfl; (first
    | exact (rfl : _ = Value.int _ _)
    | exact (rfl : _ = Value.pointer (some _))))
    | ((with_reducible apply Zn); rfl; rfl; (exact (rfl : _ = Value.int _ _)); (exact (rfl : _ = Value.int _ _)); (with_reducible exact Zdh (by omega)))
    | ((with_reducible apply Zag); rfl; rfl; exact (rfl : _ = Value.pointer (some ⟨_, _, _⟩)); (exact (rfl : _ = some (Value.pointer (some _)))))
    | ((with_reducible apply Zj); rfl; rfl; exact (rfl : _ = Value.pointer (some ⟨_, _, _⟩)); (exact (rfl : _ = some 0)); (exact Nat.zero_add _))
    | ((with_reducible apply Zo); rfl; rfl; exact (rfl : _ = Value.pointer (some ⟨_, _, _⟩)); (exact (rfl : _ = some (Value.agg _))))
    | ((with_reducible apply Zr); rfl; exact (rfl : _ = Value.pointer (some ⟨_, _, _⟩)); (exact (rfl : _ = Value.agg _)); (rfl); exact (rfl : _ = _ :: _))
    | ((with_reducible apply Zae (nid := 3)); rfl; rfl; rfl; exact (rfl : _ = _ :: _))
    | with_reducible refine Za ?_
    | with_reducible refine Zi ?_
    | with_reducible refine Zg ?_
    | with_reducible refine Zap ?_
    | with_reducible refine Zce ?_
    | with_reducible refine Zc ?_
    | with_reducible refine Zbj ?_
    | with_reducible refine Zbo ?_
    | ((with_reducible apply Zx); rfl)
    | ((with_reducible apply Zbp); rfl))
   refine Zb8 (fun x => [pt 0 0, dead, dead, dead, pt 2 0, dead, dead, pt 3 0] ++ List.replicate 33 dead ++ [.agg (Zbx w32 64 kk).toArray, Iv (x : Nat)])
    (fun t : Nat => [stB v (sl 1 0 m c) (w64 n), byB 64 b, wB (Zt1 kk v (Zn2 b 64) t).2, vB (Zt1 kk v (Zn2 b 64) t).1]) (fun t => t ≤ 64) (fun t => 64 - t) 0 (by omega) ?_ ?_
   ·refine Zaq (n := 4) rfl ?_ rfl rfl
    repeat (first | exact trivial | refine ⟨.inl rfl, ?_⟩ | refine ⟨.inr ⟨rfl, rfl⟩, ?_⟩)
   ·intro t ht
    by_cases hlt : t < 64
    ·generalize hv : (Zt1 kk v (Zn2 b 64) t).1 = vt
     generalize hw : (Zt1 kk v (Zn2 b 64) t).2 = wt
     repeat (first
      | ((with_reducible apply Zwo); rfl; rfl; (exact (rfl : _ = Value.agg _)); (exact (rfl : _ = Value.int _ _)); exact Zpv (i := t) rfl rfl (by omega) (by omega) (by omega) (fun _ => rfl))
      | ((with_reducible apply Ze7 (j := t % 16)); rfl; rfl; exact (rfl : _ = Value.pointer (some ⟨_, _, _⟩)); (exact (rfl : _ = Value.int _ _)); (exact (rfl : _ = some (_, 1))); omega; omega; omega)
      | ((with_reducible apply Ze7 (j := (t + 1) % 16)); rfl; rfl; exact (rfl : _ = Value.pointer (some ⟨_, _, _⟩)); (exact (rfl : _ = Value.int _ _)); (exact (rfl : _ = some (_, 1))); omega; omega; omega)
      | ((with_reducible apply Ze7 (j := (t + 14) % 16)); rfl; rfl; exact (rfl : _ = Value.pointer (some ⟨_, _, _⟩)); (exact (rfl : _ = Value.int _ _)); (exact (rfl : _ = some (_, 1))); omega; omega; omega)
      | ((with_reducible apply Ze7 (j := (t + 9) % 16)); rfl; rfl; exact (rfl : _ = Value.pointer (some ⟨_, _, _⟩)); (exact (rfl : _ = Value.int _ _)); (exact (rfl : _ = some (_, 1))); omega; omega; omega)
      | ((with_reducible apply Ze7 (j := 0)); rfl; rfl; exact (rfl : _ = Value.pointer (some ⟨_, _, _⟩)); (exact (rfl : _ = Value.int _ _)); (exact (rfl : _ = some (_, 1))); omega; omega; omega)
      | ((with_reducible apply Ze7 (j := 1)); rfl; rfl; exact (rfl : _ = Value.pointer (some ⟨_, _, _⟩)); (exact (rfl : _ = Value.int _ _)); (exact (rfl : _ = some (_, 1))); omega; omega; omega)
      | ((with_reducible apply Ze7 (j := 2)); rfl; rfl; exact (rfl : _ = Value.pointer (some ⟨_, _, _⟩)); (exact (rfl : _ = Value.int _ _)); (exact (rfl : _ = some (_, 1))); omega; omega; omega)
      | ((with_reducible apply Ze7 (j := 4)); rfl; rfl; exact (rfl : _ = Value.pointer (some ⟨_, _, _⟩)); (exact (rfl : _ = Value.int _ _)); (exact (rfl : _ = some (_, 1))); omega; omega; omega)
      | ((with_reducible apply Ze7 (j := 5)); rfl; rfl; exact (rfl : _ = Value.pointer (some ⟨_, _, _⟩)); (exact (rfl : _ = Value.int _ _)); (exact (rfl : _ = some (_, 1))); omega; omega; omega)
      | ((with_reducible apply Ze7 (j := 6)); rfl; rfl; exact (rfl : _ = Value.pointer (some ⟨_, _, _⟩)); (exact (rfl : _ = Value.int _ _)); (exact (rfl : _ = some (_, 1))); omega; omega; omega)
      | ((with_reducible apply Ze7 (j := 7)); rfl; rfl; exact (rfl : _ = Value.pointer (some ⟨_, _, _⟩)); (exact (rfl : _ = Value.int _ _)); (exact (rfl : _ = some (_, 1))); omega; omega; omega)
      | ((with_reducible apply Zd); rfl; rfl; (exact (rfl : _ = Value.int _ _)))
      | ((with_reducible apply Zb); rfl; rfl; (exact (rfl : _ = Value.int _ _)))
      | ((with_reducible apply Zn); rfl; rfl; (exact (rfl : _ = Value.int _ _)); (exact (rfl : _ = Value.int _ _)); (first
      | with_reducible exact Zdt (by omega)
      | with_reducible exact Za7 rfl (by omega) (by omega)
      | with_reducible exact Z3o (by first | exact ofI _ _ | rfl) (by first | exact ofI _ _ | rfl)
      | with_reducible exact Z5a (by first | exact ofI _ _ | rfl) (by first | exact ofI _ _ | rfl)
      | with_reducible exact Z1x (by omega)
      | with_reducible exact Z3v (by first | exact ofI _ _ | rfl) (by first | exact ofI _ _ | rfl)
      | with_reducible exact Zxa (by omega) (by omega)))
      | ((with_reducible apply Zec); rfl; rfl; (exact (rfl : _ = Value.pointer (some _))); rfl; rfl; (exact (rfl : _ = some (Value.slice (some ⟨_, _, _⟩) _ _))))
      | ((with_reducible apply Zvs); rfl; rfl; (exact (rfl : _ = Value.slice _ _ _)); (exact (rfl : _ = Value.slice _ _ _)); exact (rfl : _ = some (Value.int _ _, _, _)); exact (rfl : _ = _ :: _))
      | ((with_reducible apply Zo); rfl; rfl; exact (rfl : _ = Value.pointer (some ⟨_, _, _⟩)); (first
      | exact Zq0 rfl rfl rfl (by omega) (fun _ => rfl)
      | exact (rfl : _ = some (Value.int _ _))))
      | ((with_reducible apply Zr); rfl; exact (rfl : _ = Value.pointer (some ⟨_, _, _⟩)); (exact (rfl : _ = Value.int _ _)); (first
      | exact Zhv rfl rfl rfl rfl rfl (by omega) rfl rfl
      | rfl); exact (rfl : _ = _ :: _))
      | ((with_reducible apply Zs (Zwn _ _)); rfl; rfl; rfl; rfl; rfl; (exact (rfl : _ = Value.int _ _)))
      | ((with_reducible apply Zs (Zmi _ 6 11 _ (by decide) (by decide))); rfl; rfl; rfl; rfl; rfl; (exact (rfl : _ = Value.int _ _)))
      | ((with_reducible apply Zs (Zmi _ 2 13 _ (by decide) (by decide))); rfl; rfl; rfl; rfl; rfl; (exact (rfl : _ = Value.int _ _)))
      | ((with_reducible apply Zs (Zmi _ 7 18 _ (by decide) (by decide))); rfl; rfl; rfl; rfl; rfl; (exact (rfl : _ = Value.int _ _)))
      | ((with_reducible apply Zs (Zmi _ 17 19 _ (by decide) (by decide))); rfl; rfl; rfl; rfl; rfl; (exact (rfl : _ = Value.int _ _)))
      | with_reducible refine Za ?_
      | with_reducible refine Zi ?_
      | with_reducible refine Zg ?_
      | with_reducible refine Zap ?_
      | with_reducible refine Zai ?_
      | with_reducible refine Zc ?_
      | with_reducible refine Z1 ?_
      | (with_reducible refine Zig (by kernel_rfl) ?_)
      | (with_reducible refine Zj2 (by kernel_rfl) ?_)
      | ((with_reducible apply Z0); rfl))
     subst hv; subst hw
     refine Zau ⟨t + 1, by omega, by omega, ?_⟩
     refine Zaq (n := 4) rfl ?_ ?_ ?_
     repeat (first | exact trivial | refine ⟨.inl rfl, ?_⟩ | refine ⟨.inr ⟨rfl, rfl⟩, ?_⟩)
     ·rfl
     ·rfl
    ·obtain rfl : t = 64 := by omega
     generalize hv : (Zt1 kk v (Zn2 b 64) 64).1 = vt
     generalize hw : (Zt1 kk v (Zn2 b 64) 64).2 = wt
     repeat (first
      | ((with_reducible apply Zd); rfl; rfl; (exact (rfl : _ = Value.int _ _)))
      | ((with_reducible apply Zn); rfl; rfl; (exact (rfl : _ = Value.int _ _)); (exact (rfl : _ = Value.int _ _)); (with_reducible exact Zdh (by omega)))
      | ((with_reducible apply Zo); rfl; rfl; exact (rfl : _ = Value.pointer (some ⟨_, _, _⟩)); (exact (rfl : _ = some (Value.agg _))))
      | with_reducible refine Za ?_
      | with_reducible refine Zi ?_
      | with_reducible refine Zg ?_
      | with_reducible refine Zap ?_
      | with_reducible refine Zce ?_
      | with_reducible refine Zc ?_
      | with_reducible refine Zbj ?_
      | with_reducible refine Zbo ?_
      | ((with_reducible apply Zx); rfl)
      | ((with_reducible apply Zbp); rfl))
     refine Zb8 (fun x => [pt 0 0] ++ List.replicate 138 dead ++ [.agg (Zbx w32 8 vt).toArray, Iv (x : Nat)])
      (fun x : Nat => [stB (Zzm v vt x) (sl 1 0 m c) (w64 n), byB 64 b]) (fun x => x ≤ 8) (fun x => 8 - x) 0 (by omega) ?_ ?_
     ·refine Zaq (n := 2) rfl ?_ rfl rfl
      repeat (first | exact trivial | refine ⟨.inl rfl, ?_⟩ | refine ⟨.inr ⟨rfl, rfl⟩, ?_⟩)
     ·intro x hx
      by_cases hlt : x < 8
      repeat (first
       | ((with_reducible apply Ze7 (j := x)); rfl; rfl; exact (rfl : _ = Value.pointer (some ⟨_, _, _⟩)); (exact (rfl : _ = Value.int _ _)); (exact (rfl : _ = some (_, 1))); omega; omega; omega)
       | ((with_reducible apply Zwo); rfl; rfl; (exact (rfl : _ = Value.agg _)); (exact (rfl : _ = Value.int _ _)); exact Zpv (i := x) rfl rfl (by omega) (by omega) (by omega) (fun _ => rfl))
       | ((with_reducible apply Zd); rfl; rfl; (first
       | exact (rfl : _ = Value.int _ _)
       | exact (rfl : _ = Value.pointer (some _))))
       | ((with_reducible apply Zb); rfl; rfl; (exact (rfl : _ = Value.int _ _)))
       | ((with_reducible apply Zn); rfl; rfl; (exact (rfl : _ = Value.int _ _)); (exact (rfl : _ = Value.int _ _)); (first
       | with_reducible exact Zdt (by omega)
       | with_reducible exact Za7 rfl (by omega) (by omega)
       | with_reducible exact Z3o (by first | exact ofI _ _ | rfl) (by first | exact ofI _ _ | rfl)))
       | ((with_reducible apply Zag); rfl; rfl; exact (rfl : _ = Value.pointer (some ⟨_, _, _⟩)); (exact (rfl : _ = some (Value.pointer (some _)))))
       | ((with_reducible apply Zj); rfl; rfl; exact (rfl : _ = Value.pointer (some ⟨_, _, _⟩)); (exact (rfl : _ = some 0)); (exact Nat.zero_add _))
       | ((with_reducible apply Zo); rfl; rfl; exact (rfl : _ = Value.pointer (some ⟨_, _, _⟩)); (exact Zps rfl rfl rfl (by omega) (fun _ => rfl)))
       | ((with_reducible apply Zr); rfl; exact (rfl : _ = Value.pointer (some ⟨_, _, _⟩)); (exact (rfl : _ = Value.int _ _)); (exact Zuf rfl rfl rfl rfl rfl (by omega) rfl rfl); exact (rfl : _ = _ :: _))
       | with_reducible refine Za ?_
       | with_reducible refine Zi ?_
       | with_reducible refine Zg ?_
       | with_reducible refine Zap ?_
       | with_reducible refine Zai ?_
       | with_reducible refine Zc ?_
       | with_reducible refine Z1 ?_
       | (with_reducible refine Zig (by kernel_rfl) ?_)
       | (with_reducible refine Zj2 (by kernel_rfl) ?_)
       | ((with_reducible apply Z0); rfl))
      refine Zau ⟨x + 1, by omega, by omega, ?_⟩
      refine Zaq (n := 2) rfl ?_ rfl rfl
      repeat (first | exact trivial | refine ⟨.inl rfl, ?_⟩ | refine ⟨.inr ⟨rfl, rfl⟩, ?_⟩)
      ·obtain rfl : x = 8 := by omega
       repeat (first
        | ((with_reducible apply Zn); rfl; rfl; (exact (rfl : _ = Value.int _ _)); (exact (rfl : _ = Value.int _ _)); (with_reducible exact Zdh (by omega)))
        | with_reducible refine Za ?_
        | with_reducible refine Zi ?_
        | with_reducible refine Zg ?_
        | with_reducible refine Zce ?_
        | with_reducible refine Zc ?_
        | with_reducible refine Zbj ?_
        | with_reducible refine Zbo ?_
        | ((with_reducible apply Zx); rfl)
        | ((with_reducible apply Zbp); rfl))
       refine Zdz ?_
       refine Zm (v := .tuple #[]) rfl ?_ rfl ?_ ?_
       ·subst hv; rfl
       ·rfl
       ·exact trivial
end Go.Flat
end
section
namespace Go.Flat
open Go.Proofs
variable {G : Glob}
abbrev Bs := List (BitVec 8)
def bl (s : ByteArray) : Bs := s.data.toList.map UInt8.toBitVec
theorem Zgq (s : ByteArray) : Zck s = (bl s).map w8 := by
 unfold Zck bl
 rw [List.map_map]; rfl
theorem Zb5 (s : ByteArray) : (bl s).length = s.size := by simp [bl]
def Zy (l : Bs) : Blk := { cells := l.map w8, sz := 1, wr := true, fix := false, mv := true, pur := true }
def Zi0 (l : Bs) (j : Nat) : Nat → BitVec 8 := fun i => l.getD (64 * j + i) 0
def Zm2 (kk v : Nat → BitVec 32) (l : Bs) : Nat → Nat → BitVec 32
  | 0 => v
  | j + 1 => Z42 kk (Zm2 kk v l j) (Zi0 l j)
theorem Z4p {l : Bs} {j : Nat} (h : 64 * j + 64 ≤ l.length) : ((l.map w8).drop (64 * j)).take 64 = Zbx w8 64 (Zi0 l j) := by
 apply List.ext_getElem?
 intro i
 rcases Nat.lt_or_ge i 64 with hi | hi
 ·rw [Zcx hi, List.getElem?_take, if_pos hi, List.getElem?_drop, List.getElem?_map]
  have : 64 * j + i < l.length := by omega
  simp [Zi0, this]
 ·rw [List.getElem?_eq_none (by simp; omega), List.getElem?_eq_none (by rw [Zcy]; omega)]

theorem Zjy (s : ByteArray) : (Zck s).all Zcf = true := by rw [Zgq]; simp only [List.all_map, List.all_eq_true]; intros; rfl
theorem Zxp (l : Bs) : (l.map w8).all Zcf = true := by simp only [List.all_map, List.all_eq_true]; intros; rfl
set_option maxHeartbeats 4000000 in
theorem Z14 (kk : Nat → BitVec 32) (hG : G 1 = some (Zbx w32 64 kk)) (v : Nat → BitVec 32) (pre rest full : Bs) (s : ByteArray) (n : BitVec 64) (hf : full = rest ++ bl s) (hs : full.length ≤ 140737488355328) :
  Zao Tryd.prog G 79 [pt 0 0, .string s] [stB v (slv 1 pre.length rest.length rest.length) (w64 n), Zy (pre ++ rest)] (.tuple #[])
   [stB (Zm2 kk v full (full.length / 64)) (slv 1 (64 * (full.length / 64)) (full.length - 64 * (full.length / 64)) (full.length - 64 * (full.length / 64))) (w64 (n + BitVec.ofInt 64 s.size)), Zy full] := by
 have hlen : full.length = rest.length + s.size := by rw [hf]; simp [Zb5]
 refine Zbv (fn := Tryd.f79) (nt := 44) rfl rfl rfl rfl ?_
 have hcat : (((pre ++ rest).map w8).drop pre.length).take (rest.length * 1) ++ Zck s = full.map w8 := by
  rw [Nat.mul_one, List.map_append, List.drop_append_of_le_length (by simp), Zgq, hf, List.map_append]
  have : List.drop pre.length (List.map w8 pre) = [] := by simp
  rw [this, List.nil_append, List.take_of_length_le (by simp)]
 repeat (first
  | ((with_reducible apply Zbz); rfl; rfl; rfl; exact .inr rfl; exact (rfl : _ = Value.slice (some ⟨_, _, _⟩) _ _); exact (rfl : _ = Value.string _); exact Zit (n' := full.length) (rfl : _ = some (1, _, 1)) rfl rfl rfl rfl rfl (Zjy s) (by simp [Zy]) (by decide) hlen.symm (by omega); rfl; exact (rfl : _ = _ :: _))
  | ((with_reducible apply Zd); rfl; rfl; (first
  | exact (rfl : _ = Value.pointer (some _))
  | exact (rfl : _ = Value.string _)))
  | ((with_reducible apply Zn); rfl; rfl; (exact (rfl : _ = Value.int _ _)); (exact (rfl : _ = Value.int _ _)); (with_reducible exact Z5w (by first | exact ofI _ _ | rfl) (by first | exact ofI _ _ | rfl)))
  | ((with_reducible apply Zdb); rfl; rfl; (exact (rfl : _ = Value.int _ _)); (exact Z0h rfl rfl (by first | exact Zmy _ | rfl)))
  | ((with_reducible apply Zag); rfl; rfl; exact (rfl : _ = Value.pointer (some ⟨_, _, _⟩)); (exact (rfl : _ = some (Value.pointer (some _)))))
  | ((with_reducible apply Zj); rfl; rfl; exact (rfl : _ = Value.pointer (some ⟨_, _, _⟩)); (first
  | exact (rfl : _ = some 8)
  | exact (rfl : _ = some 9)); (exact Nat.zero_add _))
  | ((with_reducible apply Zo); rfl; rfl; exact (rfl : _ = Value.pointer (some ⟨_, _, _⟩)); (first
  | exact (rfl : _ = some (Value.int _ _))
  | exact (rfl : _ = some (Value.slice _ _ _))))
  | ((with_reducible apply Zb7); rfl; rfl; (exact (rfl : _ = Value.string _)); (exact (rfl : _ = some (Value.int _ _))))
  | ((with_reducible apply Zr); rfl; exact (rfl : _ = Value.pointer (some ⟨_, _, _⟩)); (first
  | exact (rfl : _ = Value.int _ _)
  | exact (rfl : _ = Value.slice _ _ _)); (rfl); exact (rfl : _ = _ :: _))
  | with_reducible refine Za ?_
  | with_reducible refine Zi ?_
  | with_reducible refine Zg ?_
  | with_reducible refine Zap ?_
  | with_reducible refine Zc ?_)
 refine Zb8 (fun x => [pt 0 0])
  (fun j : Nat => [stB (Zm2 kk v full j) (slv 1 (64 * j) (full.length - 64 * j) (full.length - 64 * j)) (w64 (n + BitVec.ofInt 64 s.size)), Zy full]) (fun j => 64 * j ≤ full.length) (fun j => full.length - 64 * j) 0 (by omega) ?_ ?_
 ·refine Zaq (n := 2) rfl ?_ ?_ rfl
  repeat (first | exact trivial | refine ⟨.inl rfl, ?_⟩ | refine ⟨.inr ⟨rfl, rfl⟩, ?_⟩)
  ·exact congrArg (fun c => [stB v (slv 1 0 full.length full.length) (w64 (n + BitVec.ofInt 64 s.size)), ({ cells := c, sz := 1, wr := true, fix := false, mv := true, pur := true } : Blk)]) hcat
 ·intro j hj
  by_cases hlt : 64 * j + 64 ≤ full.length
  repeat (first
   | ((with_reducible apply Zec); rfl; rfl; exact (rfl : _ = Value.slice (some ⟨_, _, _⟩) _ _); rfl; rfl; first | exact Zot (h := 64) rfl rfl rfl (by omega) rfl | exact Zmb (l := 64) (sz := 1) (j := 64 * (j + 1)) (m := full.length - 64 * (j + 1)) (c' := full.length - 64 * (j + 1)) rfl rfl rfl rfl (by omega) (by omega) rfl (by omega) (by omega) (by omega))
   | ((with_reducible apply Zad (e := [some (0, 0), some (1, 64 * j)]) (nid := 0) (Zzq kk hG (Zm2 kk v full j) (Zi0 full j) (full.length - 64 * j) (full.length - 64 * j) 64 (n + BitVec.ofInt 64 s.size))); rfl; rfl; rfl; rfl; rfl; rfl; rfl; exact ⟨⟨⟨rfl, rfl⟩, ⟨rfl, rfl, rfl, by omega, by omega⟩, trivial⟩, ⟨Zay rfl rfl rfl rfl, Zjz rfl rfl (by (show 64 * j + (Zbx w8 64 _).length ≤ (List.map w8 full).length; rw [Zcy, List.length_map]; exact hlt)) (Z4p hlt), trivial⟩, rfl, rfl, rfl⟩; exact (rfl : _ = Value.tuple _); exact (rfl : _ = _ :: _))
   | ((with_reducible apply Zd); rfl; rfl; (exact (rfl : _ = Value.pointer (some _))))
   | ((with_reducible apply Zn); rfl; rfl; (exact (rfl : _ = Value.int _ _)); (exact (rfl : _ = Value.int _ _)); (with_reducible exact Zq2 (by omega)))
   | ((with_reducible apply Zag); rfl; rfl; exact (rfl : _ = Value.pointer (some ⟨_, _, _⟩)); (exact (rfl : _ = some (Value.pointer (some _)))))
   | ((with_reducible apply Zj); rfl; rfl; exact (rfl : _ = Value.pointer (some ⟨_, _, _⟩)); (exact (rfl : _ = some 8)); (exact Nat.zero_add _))
   | ((with_reducible apply Zo); rfl; rfl; exact (rfl : _ = Value.pointer (some ⟨_, _, _⟩)); (exact (rfl : _ = some (Value.slice _ _ _))))
   | ((with_reducible apply Zb7); rfl; rfl; (exact (rfl : _ = Value.slice _ _ _)); (exact (rfl : _ = some (Value.int _ _))))
   | ((with_reducible apply Zr); rfl; exact (rfl : _ = Value.pointer (some ⟨_, _, _⟩)); (exact (rfl : _ = Value.slice _ _ _)); (rfl); exact (rfl : _ = _ :: _))
   | with_reducible refine Za ?_
   | with_reducible refine Zi ?_
   | with_reducible refine Zg ?_
   | with_reducible refine Zap ?_
   | with_reducible refine Zai ?_
   | with_reducible refine Zc ?_
   | with_reducible refine Z1 ?_
   | ((with_reducible apply Z0); rfl))
  refine Zau ⟨j + 1, by omega, by omega, ?_⟩
  refine Zaq (n := 2) rfl ?_ ?_ rfl
  repeat (first | exact trivial | refine ⟨.inl rfl, ?_⟩ | refine ⟨.inr ⟨rfl, rfl⟩, ?_⟩)
  ·rfl
  ·have hj2 : j = full.length / 64 := by omega
   subst hj2
   repeat (first
    | ((with_reducible apply Zd); rfl; rfl; (exact (rfl : _ = Value.pointer (some _))))
    | ((with_reducible apply Zn); rfl; rfl; (exact (rfl : _ = Value.int _ _)); (exact (rfl : _ = Value.int _ _)); (with_reducible exact Zrb (by omega)))
    | ((with_reducible apply Zag); rfl; rfl; exact (rfl : _ = Value.pointer (some ⟨_, _, _⟩)); (exact (rfl : _ = some (Value.pointer (some _)))))
    | ((with_reducible apply Zj); rfl; rfl; exact (rfl : _ = Value.pointer (some ⟨_, _, _⟩)); (exact (rfl : _ = some 8)); (exact Nat.zero_add _))
    | ((with_reducible apply Zo); rfl; rfl; exact (rfl : _ = Value.pointer (some ⟨_, _, _⟩)); (exact (rfl : _ = some (Value.slice _ _ _))))
    | ((with_reducible apply Zb7); rfl; rfl; (exact (rfl : _ = Value.slice _ _ _)); (exact (rfl : _ = some (Value.int _ _))))
    | with_reducible refine Za ?_
    | with_reducible refine Zi ?_
    | with_reducible refine Zg ?_
    | with_reducible refine Zce ?_
    | with_reducible refine Zc ?_
    | with_reducible refine Zbj ?_
    | with_reducible refine Zbo ?_
    | ((with_reducible apply Zx); rfl)
    | ((with_reducible apply Zbp); rfl))
   refine Zdz ?_
   refine Zm (v := .tuple #[]) rfl ?_ rfl ?_ ?_
   ·rfl
   ·rfl
   ·exact trivial
end Go.Flat
end
section
namespace Go.Flat
open Go.Proofs
variable {G : Glob}
def Zzb : Nat → BitVec 32
  | 0 => 0x6a09e667 | 1 => 0xbb67ae85 | 2 => 0x3c6ef372 | 3 => 0xa54ff53a | 4 => 0x510e527f | 5 => 0x9b05688c | 6 => 0x1f83d9ab | _ => 0x5be0cd19
abbrev Z60 : Value := .slice none 0 0
def Z2a (v : Nat → BitVec 32) (r n : Value) : List Value := Zbx w32 8 v ++ [r, n]
theorem Zzr : Zao Tryd.prog G 78 [] [] (.agg (Z2a Zzb Z60 (w64 0)).toArray) [] := by
 refine Zbv (fn := Tryd.f78) (nt := 3) rfl rfl rfl rfl ?_
 refine Zat 1 (H' := [hole]) rfl ?_
 repeat (first
  | ((with_reducible apply Zaw); rfl; rfl; rfl; exact (rfl : _ = some (Value.agg _)))
  | ((with_reducible apply Zr); rfl; exact (rfl : _ = Value.pointer (some ⟨_, _, _⟩)); (exact (rfl : _ = Value.agg _)); (rfl); exact (rfl : _ = _ :: _))
  | ((with_reducible apply Zae (nid := 0)); rfl; rfl; rfl; exact (rfl : _ = _ :: _))
  | with_reducible refine Za ?_
  | with_reducible refine Zi ?_
  | with_reducible refine Zg ?_
  | with_reducible refine Zv ?_
  | with_reducible refine Zc ?_)
 refine Zu ?_
 refine Znj (v := .agg _) rfl rfl ?_
 rfl
def tl (M : Bs) : Bs := M.drop (64 * (M.length / 64))
def Zn0 (kk : Nat → BitVec 32) (M : Bs) : Nat → BitVec 32 := Zm2 kk Zzb M (M.length / 64)
def Zf9 (M : Bs) (s : ByteArray) : Bs := (tl M ++ bl s).take (64 * ((tl M ++ bl s).length / 64))
def stM (kk : Nat → BitVec 32) (M pre : Bs) (r : Nat) : Blk := stB (Zn0 kk M) (slv r pre.length (tl M).length (tl M).length) (w64 (BitVec.ofNat 64 M.length))
theorem Zwh (M : Bs) : (tl M).length = M.length - 64 * (M.length / 64) := by simp [tl]
theorem Zyj (M N : Bs) (j : Nat) : Zi0 (tl M ++ N) j = Zi0 (M ++ N) (M.length / 64 + j) := by
 have hk : 64 * (M.length / 64) ≤ M.length := by omega
 have : tl M ++ N = (M ++ N).drop (64 * (M.length / 64)) := by unfold tl; rw [List.drop_append_of_le_length hk]
 funext i
 unfold Zi0
 rw [this]
 simp only [List.getD_eq_getElem?_getD, List.getElem?_drop]
 congr 2
 omega
theorem Zug (kk : Nat → BitVec 32) (M N : Bs) : ∀ j, Zm2 kk (Zn0 kk M) (tl M ++ N) j = Zm2 kk Zzb (M ++ N) (M.length / 64 + j)
 | 0 => by
  simp only [Zm2, Nat.add_zero]
  unfold Zn0
  have : ∀ k, 64 * k ≤ M.length → Zm2 kk Zzb M k = Zm2 kk Zzb (M ++ N) k := by
   intro k
   induction k with
   | zero => intros; rfl
   | succ k ih =>
    intro h
    simp only [Zm2]
    rw [ih (by omega)]
    have hb : ∀ i, i < 64 → Zi0 M k i = Zi0 (M ++ N) k i := by
     intro i hi
     unfold Zi0
     simp only [List.getD_eq_getElem?_getD]
     rw [List.getElem?_append_left (by omega)]
    have hin : ∀ t, t ≤ 64 → Zn2 (Zi0 M k) t = Zn2 (Zi0 (M ++ N) k) t := by
     intro t
     induction t with
     | zero => intros; rfl
     | succ t ih2 => intro ht; simp only [Zn2]; rw [ih2 (by omega), hb t (by omega)]
    unfold Z42
    rw [hin 64 (by omega)]
  exact this _ (by omega)
 | j + 1 => by
  have e : M.length / 64 + (j + 1) = (M.length / 64 + j) + 1 := by omega
  rw [e]
  simp only [Zm2]
  rw [Zug kk M N j, Zyj]
theorem Zt9 (kk : Nat → BitVec 32) (hG : G 1 = some (Zbx w32 64 kk)) (M pre : Bs) (s : ByteArray) (hs : (tl M).length + s.size ≤ 140737488355328) :
  Zao Tryd.prog G 79 [pt 0 0, .string s] [stM kk M pre 1, Zy (pre ++ tl M)] (.tuple #[]) [stM kk (M ++ bl s) (Zf9 M s) 1, Zy (Zf9 M s ++ tl (M ++ bl s))] := by
 have h := Z14 (G := G) kk hG (Zn0 kk M) pre (tl M) (tl M ++ bl s) s (BitVec.ofNat 64 M.length) rfl (by simp [Zb5]; omega)
 have hk : 64 * (M.length / 64) ≤ M.length := by omega
 have hl : (tl M ++ bl s).length = M.length - 64 * (M.length / 64) + s.size := by simp [Zwh, Zb5]
 have hL : (M ++ bl s).length = M.length + s.size := by simp [Zb5]
 have hq : (M ++ bl s).length / 64 = M.length / 64 + (tl M ++ bl s).length / 64 := by rw [hl, hL]; omega
 have hd : tl (M ++ bl s) = (tl M ++ bl s).drop (64 * ((tl M ++ bl s).length / 64)) := by
  have e1 : tl M ++ bl s = (M ++ bl s).drop (64 * (M.length / 64)) := by unfold tl; rw [List.drop_append_of_le_length hk]
  rw [e1, List.drop_drop, ← e1]
  unfold tl
  congr 1
  rw [hq]; unfold tl; omega
 have hp : (Zf9 M s).length = 64 * ((tl M ++ bl s).length / 64) := by unfold Zf9; rw [List.length_take]; omega
 have e1 : Zm2 kk (Zn0 kk M) (tl M ++ bl s) ((tl M ++ bl s).length / 64) = Zn0 kk (M ++ bl s) := by rw [Zug]; unfold Zn0; rw [hq]
 have e2 : Zf9 M s ++ tl (M ++ bl s) = tl M ++ bl s := by rw [hd]; exact List.take_append_drop _ _
 have e3 : (tl (M ++ bl s)).length = (tl M ++ bl s).length - 64 * ((tl M ++ bl s).length / 64) := by rw [hd, List.length_drop]
 have e4 : BitVec.ofNat 64 M.length + BitVec.ofInt 64 s.size = BitVec.ofNat 64 (M ++ bl s).length := by rw [hL, BitVec.ofInt_natCast, BitVec.ofNat_add]
 rw [e1, e4, ← e3, ← hp, ← e2] at h
 exact h
end Go.Flat
end
section
namespace Go.Flat
open Go.Proofs
variable {G : Glob}
def Zcz (ps : List ByteArray) : Blk := { cells := ps.map Value.string, sz := 1, wr := false, fix := false, mv := true, pur := true }
def dgB (d : Nat → BitVec 8) : Blk := { cells := Zbx w8 32 d, sz := 32, wr := true, fix := true, mv := false, pur := true }
def Zek (ps : List ByteArray) : Bs := (ps.map bl).flatten
def Zzn (n : BitVec 64) (i : Nat) : BitVec 8 := (n >>> (56 - 8 * (i : Int)).toNat).setWidth 8
def Z5t (r : Nat) : Bs := (128 : BitVec 8) :: List.replicate ((119 - r) % 64) 0
def Zzl (r : Nat) (n : BitVec 64) : Nat → Bs
  | 0 => Z5t r
  | i + 1 => Zzl r n i ++ [Zzn n i]
def Z6x (v : Nat → BitVec 32) (i : Nat) : BitVec 8 := (v (i / 4) >>> (24 - (i : Int) % 4 * 8).toNat).setWidth 8
def Ztn (v : Nat → BitVec 32) : Nat → Nat → BitVec 8
  | 0 => fun _ => 0
  | i + 1 => Zha (Ztn v i) i (Z6x v i)
def Z3k (M : Bs) : BitVec 64 := BitVec.ofNat 64 M.length * BitVec.ofInt 64 8
def Zf0 (M : Bs) (i : Nat) : Bs := Zzl (tl M).length (Z3k M) i
def Zjl (kk : Nat → BitVec 32) (M : Bs) : Nat → BitVec 8 := Ztn (Zn0 kk (M ++ Zf0 M 8)) 32
theorem Zuk (r : Nat) (n : BitVec 64) : ∀ i, (Zzl r n i).length = 1 + (119 - r) % 64 + i
 | 0 => by simp [Zzl, Z5t]; omega
 | i + 1 => by simp [Zzl, Zuk r n i]; omega
def Zl (l : Bs) : ByteArray := ⟨(l.map UInt8.ofBitVec).toArray⟩
theorem Zdi (l : Bs) : bl (Zl l) = l := by
 unfold bl Zl
 simp only [List.map_map]
 have : (UInt8.toBitVec ∘ UInt8.ofBitVec) = (id : BitVec 8 → BitVec 8) := rfl
 rw [this, List.map_id]
theorem Zbc (l : Bs) : (Zl l).size = l.length := by rw [← Zb5, Zdi]

set_option maxHeartbeats 4000000 in
theorem Z5s (kk : Nat → BitVec 32) (hG : G 1 = some (Zbx w32 64 kk)) (ps : List ByteArray) (c : Nat) (hn : ps.length ≤ 1000000) (hs : ∀ s, s ∈ ps → s.size ≤ 70368744177664) :
  Zao Tryd.prog G 47 [slv 0 0 ps.length c] [Zcz ps] (.agg (Zbx w8 32 (Zjl kk (Zek ps))).toArray) [Zcz ps] := by
 refine Zbv (fn := Tryd.f47) (nt := 67) rfl rfl rfl rfl ?_
 refine Zat 6 (H' := [Zcz ps, hole, hole, hole, hole, hole, hole]) rfl ?_
 repeat (first
  | ((with_reducible apply Zd); rfl; rfl; (first
  | exact (rfl : _ = Value.int _ _)
  | exact (rfl : _ = Value.slice _ _ _)))
  | ((with_reducible apply Zb7); rfl; rfl; (exact (rfl : _ = Value.slice _ _ _)); (exact (rfl : _ = some (Value.int _ _))))
  | ((with_reducible apply Zr); rfl; exact (rfl : _ = Value.pointer (some ⟨_, _, _⟩)); (exact (rfl : _ = Value.agg _)); (rfl); exact (rfl : _ = _ :: _))
  | ((with_reducible apply Zae (nid := 1)); rfl; rfl; rfl; exact (rfl : _ = _ :: _))
  | ((with_reducible apply Zae (nid := 2)); rfl; rfl; rfl; exact (rfl : _ = _ :: _))
  | ((with_reducible apply Zs (Zzr)); rfl; rfl; rfl; rfl; rfl; (exact (rfl : _ = Value.agg _)))
  | with_reducible refine Za ?_
  | with_reducible refine Zi ?_
  | with_reducible refine Zg ?_
  | with_reducible refine Zap ?_
  | with_reducible refine Zc ?_)
 refine Zcw (Zcq.nilCell (k := 2) (j := 8) (b := 3) true 1 rfl (by decide) rfl (by show 0 < 10; decide) rfl rfl) ?_
 refine Zb8 (fun x : Nat × Bs => [dead, dead, pt 1 0, pt 2 0] ++ List.replicate 8 dead ++ [slv 0 0 ps.length c, Iv ps.length, Iv (x.1 : Nat)])
  (fun x => [Zcz ps, dgB (fun _ => 0), stM kk (Zek (ps.take x.1)) x.2 3, Zy (x.2 ++ tl (Zek (ps.take x.1))), hole, hole, hole]) (fun x => x.1 ≤ ps.length) (fun x => ps.length - x.1) (0, []) (by simp) ?_ ?_
 ·refine Zaq (n := 7) rfl ?_ ?_ rfl
  repeat (first | exact trivial | refine ⟨.inl rfl, ?_⟩ | refine ⟨.inr ⟨rfl, rfl⟩, ?_⟩)
  ·show _ = [Zcz ps, dgB (fun _ => 0), stM kk (Zek (ps.take 0)) [] 3, Zy ([] ++ tl (Zek (ps.take 0))), hole, hole, hole]
   rw [show Zek (ps.take 0) = [] from by simp [Zek]]
   rfl
 ·rintro ⟨i, pre⟩ hi
  dsimp only at hi ⊢
  by_cases hlt : i < ps.length
  ·have hM : Zek (ps.take (i + 1)) = Zek (ps.take i) ++ bl ps[i] := by
    unfold Zek
    rw [List.take_add_one, List.map_append, List.flatten_append]
    simp [hlt]
   have hsz : (tl (Zek (ps.take i))).length + (ps[i]).size ≤ 140737488355328 := by
    have := hs ps[i] (List.getElem_mem hlt)
    rw [Zwh]; omega
   have hget : (Zcz ps).cells[i]? = some (Value.string ps[i]) := by simp [Zcz, hlt]
   generalize hMi : Zek (ps.take i) = M at hM hsz
   repeat (first
    | ((with_reducible apply Zo); rfl; rfl; exact (rfl : _ = Value.pointer (some ⟨_, _, _⟩)); exact Zkb rfl rfl hget rfl)
    | ((with_reducible apply Zdg (e := [some (2, 0), some (3, 0)]) (nid := 0) (Zt9 kk hG M pre ps[i] hsz)); rfl; rfl; rfl; rfl; rfl; rfl; refine ⟨⟨⟨rfl, rfl⟩, rfl, trivial⟩, ⟨Zay rfl rfl rfl (congrArg (fun q => Zbx w32 8 (Zn0 kk M) ++ [slv 3 q (tl M).length (tl M).length, w64 (BitVec.ofNat 64 M.length)]) (Nat.zero_add _).symm), Zay rfl rfl rfl rfl, trivial⟩, rfl, rfl, rfl, Nat.le_refl _⟩; exact (rfl : _ = Value.tuple _); rfl; exact (rfl : _ = _ :: _))
    | ((with_reducible apply Zbk (j := i)); rfl; rfl; exact (rfl : _ = Value.slice (some ⟨_, _, _⟩) _ _); (exact (rfl : _ = Value.int _ _)); (exact (rfl : _ = some (_, 1))); omega; omega; omega)
    | ((with_reducible apply Zd); rfl; rfl; (first
    | exact (rfl : _ = Value.int _ _)
    | exact (rfl : _ = Value.string _)))
    | ((with_reducible apply Zb); rfl; rfl; (exact (rfl : _ = Value.string _)))
    | ((with_reducible apply Zn); rfl; rfl; (exact (rfl : _ = Value.int _ _)); (exact (rfl : _ = Value.int _ _)); (first
    | with_reducible exact Zdt (by omega)
    | with_reducible exact Za7 rfl (by omega) (by omega)))
    | with_reducible refine Za ?_
    | with_reducible refine Zi ?_
    | with_reducible refine Zg ?_
    | with_reducible refine Zap ?_
    | with_reducible refine Zai ?_
    | with_reducible refine Zc ?_
    | with_reducible refine Z1 ?_
    | ((with_reducible apply Z0); rfl))
   refine Zau ⟨(i + 1, Zf9 M ps[i]), by show i + 1 ≤ _; omega, by show _ - (i + 1) < _; omega, ?_⟩
   refine Zaq (n := 7) rfl ?_ ?_ rfl
   repeat (first | exact trivial | refine ⟨.inl rfl, ?_⟩ | refine ⟨.inr ⟨rfl, rfl⟩, ?_⟩)
   ·show _ = [Zcz ps, dgB (fun _ => 0), stM kk (Zek (ps.take (i + 1))) (Zf9 M ps[i]) 3, Zy (Zf9 M ps[i] ++ tl (Zek (ps.take (i + 1)))), hole, hole, hole]
    rw [hM]
    exact congrArg (fun q => [Zcz ps, dgB (fun _ => 0), stB (Zn0 kk (M ++ bl ps[i])) (slv 3 q (tl (M ++ bl ps[i])).length (tl (M ++ bl ps[i])).length) (w64 (BitVec.ofNat 64 (M ++ bl ps[i]).length)), Zy (Zf9 M ps[i] ++ tl (M ++ bl ps[i])), hole, hole, hole]) (Nat.zero_add _)
  ·obtain rfl : i = ps.length := by omega
   rw [List.take_length]
   have htl : (tl (Zek ps)).length < 64 := by rw [Zwh]; omega
   generalize hMi : Zek ps = M at htl
   have hp : ∀ i, (Zf0 M i).length = 1 + (119 - (tl M).length) % 64 + i := fun i => Zuk _ _ i
   repeat (first
    | ((with_reducible apply Z35 (nid := 4)); rfl; rfl; exact (rfl : _ = Value.int _ _); exact (rfl : _ = Value.int _ _); exact Z0l (n := (119 - (tl M).length) % 64 + 1) (c := 128) (rfl : _ = some (1, _, 1)) (by omega) rfl (by omega) (by decide) (by decide) rfl; exact (rfl : _ = _ :: _))
    | ((with_reducible apply Zr); rfl; exact (rfl : _ = Value.pointer (some ⟨4, _, _⟩)); exact (rfl : _ = Value.int _ _); exact Zvo rfl rfl rfl (Z13 _ _) (by simp) rfl rfl; exact (rfl : _ = _ :: _))
    | ((with_reducible apply Zbk (j := 0)); rfl; rfl; exact (rfl : _ = Value.slice (some ⟨_, _, _⟩) _ _); (exact (rfl : _ = Value.int _ _)); (exact (rfl : _ = some (_, 1))); omega; omega; omega)
    | ((with_reducible apply Zd); rfl; rfl; (first
    | exact (rfl : _ = Value.int _ _)
    | exact (rfl : _ = Value.slice _ _ _)))
    | ((with_reducible apply Zb); rfl; rfl; (first
    | exact (rfl : _ = Value.int _ _)
    | exact (rfl : _ = Value.slice _ _ _)))
    | ((with_reducible apply Zn); rfl; rfl; (exact (rfl : _ = Value.int _ _)); (exact (rfl : _ = Value.int _ _)); (first
    | with_reducible exact Zdh (by omega)
    | with_reducible exact Za7 rfl (by omega) (by omega)
    | with_reducible exact Zku rfl (by omega) (by omega)
    | with_reducible exact Z5g (by first | exact ofI _ _ | rfl) (by first | exact ofI _ _ | rfl)
    | with_reducible exact Zxa (by omega) (by omega)))
    | ((with_reducible apply Zj); rfl; rfl; exact (rfl : _ = Value.pointer (some ⟨_, _, _⟩)); (first
    | exact (rfl : _ = some 8)
    | exact (rfl : _ = some 9)); (exact Nat.zero_add _))
    | ((with_reducible apply Zo); rfl; rfl; exact (rfl : _ = Value.pointer (some ⟨_, _, _⟩)); (first
    | exact (rfl : _ = some (Value.int _ _))
    | exact (rfl : _ = some (Value.slice _ _ _))))
    | ((with_reducible apply Zb7); rfl; rfl; (exact (rfl : _ = Value.slice _ _ _)); (exact (rfl : _ = some (Value.int _ _))))
    | with_reducible refine Za ?_
    | with_reducible refine Zi ?_
    | with_reducible refine Zg ?_
    | with_reducible refine Zap ?_
    | with_reducible refine Zce ?_
    | with_reducible refine Zc ?_
    | with_reducible refine Zbj ?_
    | with_reducible refine Zbo ?_
    | ((with_reducible apply Zx); rfl)
    | ((with_reducible apply Zbp); rfl))
   refine Zb8 (fun x : Nat × Nat => [dead, dead, pt 1 0, pt 2 0, dead, dead, w64 (Z3k M), slv 4 0 (Zf0 M x.1).length x.2] ++ List.replicate 25 dead ++ [Iv (x.1 : Nat)])
    (fun x => [Zcz ps, dgB (fun _ => 0), stM kk M pre 3, Zy (pre ++ tl M), Zy (Zf0 M x.1)]) (fun x => x.1 ≤ 8) (fun x => 8 - x.1) (0, 128) (by show 0 ≤ 8; decide) ?_ ?_
   ·refine Zaq (n := 5) rfl ?_ ?_ rfl
    ·rw [show (Zf0 M (0, 128).1).length = (119 - (tl M).length) % 64 + 1 from by rw [hp]; omega]
     repeat (first | exact trivial | refine ⟨.inl rfl, ?_⟩ | refine ⟨.inr ⟨rfl, rfl⟩, ?_⟩)
    ·exact congrArg (fun q => [Zcz ps, dgB (fun _ => 0), stM kk M pre 3, Zy (pre ++ tl M), ({ cells := w8 128 :: q, sz := 1, wr := true, fix := false, mv := true, pur := true } : Blk)]) (show List.replicate ((119 - (tl M).length) % 64) (w8 0) = List.map w8 (List.replicate ((119 - (tl M).length) % 64) 0) from by rw [List.map_replicate])
   ·rintro ⟨i, cap⟩ hi8
    dsimp only at hi8 ⊢
    by_cases hl8 : i < 8
    ·have hpi := hp i
     have hpi1 := hp (i + 1)
     refine Zat 1 (H' := [Zcz ps, dgB (fun _ => 0), stM kk M pre 3, Zy (pre ++ tl M), Zy (Zf0 M i), hole]) rfl ?_
     repeat (first
      | ((with_reducible apply Zd5 (nid := 5)); rfl; rfl; rfl; exact (rfl : _ = some (Value.slice _ _ _, _)); exact (rfl : _ = _ :: _))
      | ((with_reducible apply Zbz); rfl; rfl; rfl; exact .inl ⟨_, rfl⟩; exact (rfl : _ = Value.slice (some ⟨_, _, _⟩) _ _); exact (rfl : _ = Value.slice (some ⟨_, _, _⟩) _ _); exact Zit (n' := (Zf0 M (i + 1)).length) (rfl : _ = some (1, _, 1)) (rfl : _ = some (1, _)) rfl rfl rfl rfl rfl (by simp [Zy]) (by decide) (by omega) (by omega); rfl; exact (rfl : _ = _ :: _))
      | ((with_reducible apply Zd); rfl; rfl; (first
      | exact (rfl : _ = Value.int _ _)
      | exact (rfl : _ = Value.slice _ _ _)))
      | ((with_reducible apply Zb); rfl; rfl; (first
      | exact (rfl : _ = Value.int _ _)
      | exact (rfl : _ = Value.slice _ _ _)))
      | ((with_reducible apply Zn); rfl; rfl; (exact (rfl : _ = Value.int _ _)); (exact (rfl : _ = Value.int _ _)); (first
      | with_reducible exact Zdt (by omega)
      | with_reducible exact Za7 rfl (by omega) (by omega)
      | with_reducible exact Zku rfl (by omega) (by omega)
      | with_reducible exact Zkz rfl (by omega) (by omega)
      | with_reducible exact Z5h (by omega)))
      | ((with_reducible apply Zdb); rfl; rfl; (exact (rfl : _ = Value.int _ _)); (exact Zjn rfl rfl (by first | exact Zmy _ | rfl)))
      | with_reducible refine Za ?_
      | with_reducible refine Zi ?_
      | with_reducible refine Zg ?_
      | with_reducible refine Zap ?_
      | with_reducible refine Zai ?_
      | with_reducible refine Zc ?_
      | with_reducible refine Z1 ?_
      | ((with_reducible apply Z0); rfl))
     refine Zau ⟨(i + 1, (Zf0 M (i + 1)).length), by show i + 1 ≤ 8; omega, by show 8 - (i + 1) < 8 - i; omega, ?_⟩
     refine Zaq (n := 5) rfl ?_ ?_ rfl
     repeat (first | exact trivial | refine ⟨.inl rfl, ?_⟩ | refine ⟨.inr ⟨rfl, rfl⟩, ?_⟩)
     ·have hq : List.take ((Zf0 M i).length * 1) (List.drop 0 ((Zf0 M i).map w8)) ++ [w8 (Zzn (Z3k M) i)] = (Zf0 M (i + 1)).map w8 := by
       rw [Nat.mul_one, List.drop_zero, List.take_of_length_le (by simp)]
       show _ = List.map w8 (Zf0 M i ++ [Zzn (Z3k M) i])
       rw [List.map_append]; rfl
      exact congrArg (fun q => [Zcz ps, dgB (fun _ => 0), stM kk M pre 3, Zy (pre ++ tl M), ({ cells := q, sz := 1, wr := true, fix := false, mv := true, pur := true } : Blk)]) hq
    ·obtain rfl : i = 8 := by omega
     have hp8 := hp 8
     refine Zat 1 (H' := [Zcz ps, dgB (fun _ => 0), stM kk M pre 3, Zy (pre ++ tl M), Zy (Zf0 M 8), hole]) rfl ?_
     have hS : bl (Zl (Zf0 M 8)) = Zf0 M 8 := Zdi _
     have hsz : (tl M).length + (Zl (Zf0 M 8)).size ≤ 140737488355328 := by rw [Zbc]; omega
     repeat (first
      | ((with_reducible apply Zc6); rfl; rfl; exact (rfl : _ = Value.slice (some ⟨_, _, _⟩) _ _); exact Zi2 (l := Zf0 M 8) rfl rfl rfl rfl (by simp [Zy]) (by show List.take (Zf0 M 8).length (List.drop 0 ((Zf0 M 8).map w8)) = _; rw [List.drop_zero, List.take_of_length_le (by simp)]))
      | ((with_reducible apply Zdg (e := [some (2, 0), some (3, 0)]) (nid := 0) (Zt9 kk hG M pre (Zl (Zf0 M 8)) hsz)); rfl; rfl; rfl; rfl; rfl; rfl; refine ⟨⟨⟨rfl, rfl⟩, rfl, trivial⟩, ⟨Zay rfl rfl rfl (congrArg (fun q => Zbx w32 8 (Zn0 kk M) ++ [slv 3 q (tl M).length (tl M).length, w64 (BitVec.ofNat 64 M.length)]) (Nat.zero_add _).symm), Zay rfl rfl rfl rfl, trivial⟩, rfl, rfl, rfl, Nat.le_refl _⟩; exact (rfl : _ = Value.tuple _); rfl; exact (rfl : _ = _ :: _))
      | ((with_reducible apply Zd); rfl; rfl; (first
      | exact (rfl : _ = Value.int _ _)
      | exact (rfl : _ = Value.slice _ _ _)))
      | ((with_reducible apply Zn); rfl; rfl; (exact (rfl : _ = Value.int _ _)); (exact (rfl : _ = Value.int _ _)); (with_reducible exact Zdh (by omega)))
      | ((with_reducible apply Zae (nid := 5)); rfl; rfl; rfl; exact (rfl : _ = _ :: _))
      | with_reducible refine Za ?_
      | with_reducible refine Zi ?_
      | with_reducible refine Zg ?_
      | with_reducible refine Zap ?_
      | with_reducible refine Zce ?_
      | with_reducible refine Zc ?_
      | with_reducible refine Zbj ?_
      | with_reducible refine Zbo ?_
      | ((with_reducible apply Zx); rfl)
      | ((with_reducible apply Zbp); rfl))
     generalize hV : Zn0 kk (M ++ bl (Zl (Zf0 M 8))) = V
     refine Zb8 (fun x : Nat => [dead, dead, pt 1 0, pt 2 0, dead, dead, dead, dead, dead, pt 5 0] ++ List.replicate 39 dead ++ [Iv (x : Nat)])
      (fun x : Nat => [Zcz ps, dgB (fun _ => 0), stB V (slv 3 (0 + (Zf9 M (Zl (Zf0 M 8))).length) (tl (M ++ bl (Zl (Zf0 M 8)))).length (tl (M ++ bl (Zl (Zf0 M 8)))).length) (w64 (BitVec.ofNat 64 (M ++ bl (Zl (Zf0 M 8))).length)), Zy (Zf9 M (Zl (Zf0 M 8)) ++ tl (M ++ bl (Zl (Zf0 M 8)))), Zy (Zf0 M 8), dgB (Ztn V x)]) (fun x => x ≤ 32) (fun x => 32 - x) 0 (by omega) ?_ ?_
     ·subst hV
      refine Zaq (n := 6) rfl ?_ rfl rfl
      repeat (first | exact trivial | refine ⟨.inl rfl, ?_⟩ | refine ⟨.inr ⟨rfl, rfl⟩, ?_⟩)
     ·intro x hx
      by_cases hl : x < 32
      repeat (first
       | ((with_reducible apply Ze7 (j := x / 4)); rfl; rfl; exact (rfl : _ = Value.pointer (some ⟨_, _, _⟩)); (exact (rfl : _ = Value.int _ _)); (exact (rfl : _ = some (_, 1))); omega; omega; omega)
       | ((with_reducible apply Ze7 (j := x)); rfl; rfl; exact (rfl : _ = Value.pointer (some ⟨_, _, _⟩)); (exact (rfl : _ = Value.int _ _)); (exact (rfl : _ = some (_, 1))); omega; omega; omega)
       | ((with_reducible apply Zd); rfl; rfl; (exact (rfl : _ = Value.int _ _)))
       | ((with_reducible apply Zb); rfl; rfl; (exact (rfl : _ = Value.int _ _)))
       | ((with_reducible apply Zn); rfl; rfl; (exact (rfl : _ = Value.int _ _)); (exact (rfl : _ = Value.int _ _)); (first
       | with_reducible exact Zdt (by omega)
       | with_reducible exact Za7 rfl (by omega) (by omega)
       | with_reducible exact Zku rfl (by omega) (by omega)
       | with_reducible exact Zkz rfl (by omega) (by omega)
       | with_reducible exact Z1x (by omega)
       | with_reducible exact Ztl (by omega) (by omega) (by omega)
       | with_reducible exact Zxa (by omega) (by omega)))
       | ((with_reducible apply Zdb); rfl; rfl; (exact (rfl : _ = Value.int _ _)); (exact Zjn rfl rfl (by first | exact Zmy _ | rfl)))
       | ((with_reducible apply Zj); rfl; rfl; exact (rfl : _ = Value.pointer (some ⟨_, _, _⟩)); (exact (rfl : _ = some 0)); (exact Nat.zero_add _))
       | ((with_reducible apply Zo); rfl; rfl; exact (rfl : _ = Value.pointer (some ⟨_, _, _⟩)); (exact Zps rfl rfl rfl (by omega) (fun _ => rfl)))
       | ((with_reducible apply Zr); rfl; exact (rfl : _ = Value.pointer (some ⟨_, _, _⟩)); (exact (rfl : _ = Value.int _ _)); (exact Zhv rfl rfl rfl rfl rfl (by omega) rfl rfl); exact (rfl : _ = _ :: _))
       | with_reducible refine Za ?_
       | with_reducible refine Zi ?_
       | with_reducible refine Zg ?_
       | with_reducible refine Zap ?_
       | with_reducible refine Zai ?_
       | with_reducible refine Zc ?_
       | with_reducible refine Z1 ?_
       | ((with_reducible apply Z0); rfl))
      refine Zau ⟨x + 1, by omega, by omega, ?_⟩
      refine Zaq (n := 6) rfl ?_ rfl rfl
      repeat (first | exact trivial | refine ⟨.inl rfl, ?_⟩ | refine ⟨.inr ⟨rfl, rfl⟩, ?_⟩)
      ·obtain rfl : x = 32 := by omega
       repeat (first
        | ((with_reducible apply Zn); rfl; rfl; (exact (rfl : _ = Value.int _ _)); (exact (rfl : _ = Value.int _ _)); (with_reducible exact Zdh (by omega)))
        | ((with_reducible apply Zo); rfl; rfl; exact (rfl : _ = Value.pointer (some ⟨_, _, _⟩)); (exact (rfl : _ = some (Value.agg _))))
        | ((with_reducible apply Zr); rfl; exact (rfl : _ = Value.pointer (some ⟨_, _, _⟩)); (exact (rfl : _ = Value.agg _)); (rfl); exact (rfl : _ = _ :: _))
        | with_reducible refine Za ?_
        | with_reducible refine Zi ?_
        | with_reducible refine Zg ?_
        | with_reducible refine Zce ?_
        | with_reducible refine Zv ?_
        | with_reducible refine Zc ?_
        | with_reducible refine Zbj ?_
        | with_reducible refine Zbo ?_
        | ((with_reducible apply Zx); rfl)
        | ((with_reducible apply Zbp); rfl))
       refine Zu ?_
       refine Zm (v := .agg (Zbx w8 32 (Ztn V 32)).toArray) rfl rfl rfl rfl ?_
       subst hMi
       rw [hS] at hV
       subst hV
       exact Zd1 (Zfn fun _ => rfl) rfl
end Go.Flat
end
section
namespace Go.Flat
open Go.Proofs
variable {G : Glob}
abbrev dgV (d : Nat → BitVec 8) : Value := .agg (Zbx w8 32 d).toArray
def dgL (d : Nat → BitVec 8) : Bs := (List.range 32).map d
theorem Ze2 (d : Nat → BitVec 8) : (dgL d).length = 32 := by simp [dgL]
def Z5e : ByteArray := ⟨#[1]⟩
def Z3p (kk : Nat → BitVec 32) (a b : Nat → BitVec 8) : Nat → BitVec 8 := Zjl kk (Zek [Z5e, Zl (dgL a), Zl (dgL b)])
end Go.Flat
end
section
namespace Go.Flat
open Go.Proofs
variable {G : Glob}
end Go.Flat
end
section
namespace Go.Flat
open Go.Proofs
variable {G : Glob}
def Zj4 (n : Int) : Int := if n < 2 then 0 else 2 ^ (Zrv (n - 1).toNat - 1)
end Go.Flat
end
section
namespace Go.Flat
open Go.Proofs
variable {G : Glob}
end Go.Flat
end
section
namespace Go.Flat
open Go.Proofs
variable {G : Glob}
abbrev D := Nat → BitVec 8
def dsC (ds : List D) : List Value := (ds.map (Zbx w8 32)).flatten
def dsB (ds : List D) : Blk := { cells := dsC ds, sz := 32, wr := true, fix := false, mv := true, pur := true }
def dsR (ds : List D) : Blk := { cells := dsC ds, sz := 32, wr := false, fix := false, mv := true, pur := true }
def Z7h (v : Value) : Blk := { cells := [v], sz := 1, wr := true, fix := true, mv := false, pur := false }
end Go.Flat
end
section
namespace Go.Flat
open Go.Proofs
variable {G : Glob}
def d0 : D := fun _ => 0
def Z49 (kk : Nat → BitVec 32) (P : List D) : List D := P.take (P.length - 2) ++ [Z3p kk (P.getD (P.length - 2) d0) (P.getD (P.length - 1) d0)]
def Zz4 (kk : Nat → BitVec 32) : Nat → List D → List D
  | 0, P => P
  | n + 1, P => Z49 kk (Zz4 kk n P)
def Z3n (kk : Nat → BitVec 32) (ds : List D) : Nat → List D
  | 0 => []
  | i + 1 => Zz4 kk (tz (i + 1)) (Z3n kk ds i ++ [ds.getD i d0])
def Zqx (kk : Nat → BitVec 32) (ds : List D) : D := if ds.length = 0 then Zjl kk [] else (Zz4 kk (Z5o ds.length - 1) (Z3n kk ds ds.length)).getD 0 d0
end Go.Flat
end
section
namespace Go.Flat
open Go.Proofs
variable {G : Glob}
end Go.Flat
end
section
namespace Go.Flat
open Go.Proofs
variable {G : Glob}
def Z6m (us vs : List D) : Bool := us.length == vs.length && (List.range us.length).all fun i => Zdd 32 (us.getD i d0) (vs.getD i d0)
end Go.Flat
end
section
namespace Go.Flat
open Go.Proofs
variable {G : Glob}
def Z4q (P : List D) : Nat → List D
  | 0 => P
  | i + 1 => ((Z4q P i).set i ((Z4q P i).getD (P.length - 1 - i) d0)).set (P.length - 1 - i) ((Z4q P i).getD i d0)
def dsM (b : Bool) (ds : List D) : Blk := { cells := dsC ds, sz := 32, wr := true, fix := false, mv := b, pur := true }
end Go.Flat
end
section
namespace Go.Flat
open Go.Proofs
variable {G : Glob}
def Zzv (kk : Nat → BitVec 32) (f : Nat) (l : List D) (i : Nat) (down : List D) : List D :=
  match f with
  | 0 => down
  | f + 1 => if l.length ≤ 1 then down else
      let k := (Zj4 l.length).toNat
      if i < k then Zzv kk f (l.take k) i (down ++ [Zqx kk (l.drop k)]) else Zzv kk f (l.drop k) (i - k) (down ++ [Zqx kk (l.take k)])
theorem Zvh {n : Nat} (h : 2 ≤ n) : 1 ≤ (Zj4 n).toNat ∧ (Zj4 n).toNat < n ∧ Zj4 n = ((Zj4 n).toNat : Int) := by
 unfold Zj4
 rw [if_neg (by omega)]
 have hb : ((n : Int) - 1).toNat = n - 1 := by omega
 rw [hb]
 have h0 : n - 1 ≠ 0 := by omega
 have e : Zrv (n - 1) - 1 = (n - 1).log2 := by unfold Zrv; rw [if_neg h0]; rfl
 rw [e]
 have h1 := Nat.log2_self_le h0
 have h2 : (2 : Int) ^ (n - 1).log2 = ((2 ^ (n - 1).log2 : Nat) : Int) := by simp
 have h3 : 0 < 2 ^ (n - 1).log2 := Nat.pow_pos (by decide)
 rw [h2, Int.toNat_natCast]
 refine ⟨h3, by omega, rfl⟩
end Go.Flat
end
section
namespace Go.Flat
open Go.Proofs
variable {G : Glob}
def sub (ds : List D) (o m : Nat) : List D := (ds.drop o).take m
structure IncS where
  o : Nat
  m : Nat
  cap : Nat
  i : Nat
  f : Nat
  down : List D
end Go.Flat
end
section
namespace Go.Flat
open Go.Proofs
variable {G : Glob}
end Go.Flat
end
section
namespace Go.Flat
open Go.Proofs
variable {G : Glob}
def Zxc (kk : Nat → BitVec 32) (f : Nat) (l : List D) (m : Nat) (kn : Bool) (down : List D) : List D :=
  match f with
  | 0 => if kn then down else down ++ [Zqx kk l]
  | f + 1 => if l.length ≤ m then (if kn then down else down ++ [Zqx kk l]) else
      let k := (Zj4 l.length).toNat
      if m ≤ k then Zxc kk f (l.take k) m kn (down ++ [Zqx kk (l.drop k)]) else Zxc kk f (l.drop k) (m - k) false (down ++ [Zqx kk (l.take k)])
structure ConS where
  o : Nat
  m : Nat
  cap : Nat
  i : Nat
  kn : Bool
  f : Nat
  down : List D
end Go.Flat
end
section
namespace Go.Flat
open Go.Proofs
variable {G : Glob}
end Go.Flat
end
section
namespace Go.Flat
open Go.Proofs
variable {G : Glob}
def dg1 (k : Nat) : D := fun i => if i = 0 then BitVec.ofNat 8 k else 0
end Go.Flat
end
