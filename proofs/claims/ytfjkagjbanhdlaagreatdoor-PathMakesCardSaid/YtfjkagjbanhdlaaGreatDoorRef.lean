/- Walks. -/
import Derived.Test.YtfjkagjbanhdlaaGreatDoorSha
import Derived.Test.YtfjkagjbanhdlaaGreatDoorFlatC
import Derived.Test.YtfjkagjbanhdlaaGreatDoorLast
set_option linter.unusedVariables false
set_option linter.unusedSimpArgs false
set_option maxRecDepth 20000
section
namespace Go.Flat
open Go.Proofs
variable {G : Glob}
def Zhv (x : BitVec 32) (n : Nat) : BitVec 32 := x >>> n ||| x <<< (32 - n)
theorem Znc (x : BitVec 32) (n : Int) (h : 0 ≤ n ∧ n ≤ 32) : Z6 Tryz.prog G 118 [w32 x, Iv n] [] (w32 (Zhv x n.toNat)) [] := by
 refine Za8 (fn := Tryz.f118) (nt := 13) rfl rfl rfl rfl ?_
 repeat (first
  | ((with_reducible apply Zac); rfl; rfl; (exact (rfl : _ = Value.int _ _)))
  | ((with_reducible apply Z3); rfl; rfl; (exact (rfl : _ = Value.int _ _)))
  | ((with_reducible apply Zl); rfl; rfl; (exact (rfl : _ = Value.int _ _)); (exact (rfl : _ = Value.int _ _)); (first
  | with_reducible exact Zc4 rfl (by omega) (by omega)
  | with_reducible exact Z7k (by first | exact ofI _ _ | rfl) (by first | exact ofI _ _ | rfl)
  | with_reducible exact Z4w (by first | exact ofI _ _ | rfl) (by omega)
  | with_reducible exact Zsf (by omega)))
  | with_reducible refine Za ?_
  | with_reducible refine Zg ?_
  | with_reducible refine Zf ?_
  | with_reducible refine Zq ?_
  | with_reducible refine Zc ?_
  | (with_reducible refine Zb3 (by kernel_rfl) ?_)
  | (with_reducible refine Zc1 (by kernel_rfl) ?_))
 refine Zr ?_
 refine Zd0 (v := .int _ _) rfl rfl ?_
 have : (32 - n).toNat = 32 - n.toNat := by omega
 simp only [Zhv, this]
theorem Zsh (k : Nat) (x : BitVec 32) (h : k ≤ 32) : Z6 Tryz.prog G 118 [w32 x, Iv (k : Nat)] [] (w32 (Zhv x k)) [] := Znc x k (by omega)
def Zrg (w : Nat → BitVec 32) : Blk := { cells := Zag w32 64 w, sz := 64, wr := true, fix := true, mv := false, pur := true }
def inR (b : Nat → BitVec 8) : Nat → Nat → BitVec 32
  | 0 => fun _ => 0
  | k + 1 => Zfg (inR b k) (k / 4) (inR b k (k / 4) * BitVec.ofInt 32 256 + (b k).setWidth 32)
def Zyo (w : Nat → BitVec 32) (t : Nat) : BitVec 32 := w (t - 16) + w (t - 7) + (Zhv (w (t - 15)) 7 ^^^ Zhv (w (t - 15)) 18 ^^^ w (t - 15) >>> 3) + (Zhv (w (t - 2)) 17 ^^^ Zhv (w (t - 2)) 19 ^^^ w (t - 2) >>> 10)
def Zjq (b : Nat → BitVec 8) : Nat → Nat → BitVec 32
  | 0 => inR b 64
  | k + 1 => Zfg (Zjq b k) (16 + k) (Zyo (Zjq b k) (16 + k))
set_option maxHeartbeats 8000000 in
theorem Z4g (b : Nat → BitVec 8) (c : Nat) : Z6 Tryz.prog G 117 [sl 0 0 64 c] [byB 64 b] (.agg (Zag w32 64 (Zjq b 48)).toArray) [byB 64 b] := by
 refine Za8 (fn := Tryz.f117) (nt := 74) rfl rfl rfl rfl ?_
 refine Zaa 2 (H' := [byB 64 b, hole, hole]) rfl ?_
 repeat (first
  | ((with_reducible apply Z3); rfl; rfl; (exact (rfl : _ = Value.int _ _)))
  | ((with_reducible apply Zbs (nid := 1)); rfl; rfl; rfl; exact (rfl : _ = _ :: _))
  | ((with_reducible apply Zbs (nid := 2)); rfl; rfl; rfl; exact (rfl : _ = _ :: _))
  | with_reducible refine Za ?_
  | with_reducible refine Zg ?_
  | with_reducible refine Zf ?_
  | with_reducible refine Z1 ?_
  | with_reducible refine Zc ?_)
 refine Zbg (fun t : Nat => [sl 0 0 64 c, dead, pt 1 0, pt 2 0, Iv (t : Nat)]) (fun t : Nat => [byB 64 b, Zrg (fun _ => 0), Zrg (inR b (4 * t))]) (fun t => t ≤ 16) (fun t => 16 - t) 0 (by omega) ?_ ?_
 ·refine Z5 (n := 3) rfl ?_ (by kernel_rfl) rfl
  repeat (first | exact trivial | refine ⟨.inl rfl, ?_⟩ | refine ⟨.inr ⟨rfl, rfl⟩, ?_⟩)
 ·intro t ht
  by_cases hlt : t < 16
  repeat (first
   | ((with_reducible apply Zac); rfl; rfl; (exact (rfl : _ = Value.int _ _)))
   | ((with_reducible apply Z3); rfl; rfl; (exact (rfl : _ = Value.int _ _)))
   | ((with_reducible apply Zl); rfl; rfl; (exact (rfl : _ = Value.int _ _)); (exact (rfl : _ = Value.int _ _)); (with_reducible exact Zcc (by omega)))
   | with_reducible refine Za ?_
   | with_reducible refine Zg ?_
   | with_reducible refine Zf ?_
   | with_reducible refine Z1 ?_
   | with_reducible refine Z0 ?_
   | with_reducible refine Zc ?_
   | ((with_reducible apply Zx); rfl))
  refine Zbg (fun i : Nat => [sl 0 0 64 c, dead, pt 1 0, pt 2 0, Iv (t : Nat), Iv (i : Nat)]) (fun i : Nat => [byB 64 b, Zrg (fun _ => 0), Zrg (inR b (4 * t + i))]) (fun i => i ≤ 4) (fun i => 4 - i) 0 (by omega) ?_ ?_
  ·refine Z5 (n := 3) rfl ?_ rfl rfl
   repeat (first | exact trivial | refine ⟨.inl rfl, ?_⟩ | refine ⟨.inr ⟨rfl, rfl⟩, ?_⟩)
  ·intro i hi
   by_cases hlt2 : i < 4
   ·generalize hw : inR b (4 * t + i) = w
    repeat (first
     | ((with_reducible apply Zbw (j := t)); rfl; rfl; exact (rfl : _ = Value.pointer (some ⟨_, _, _⟩)); (exact (rfl : _ = Value.int _ _)); (exact (rfl : _ = some (_, 1))); omega; omega; omega)
     | ((with_reducible apply Zbe (j := 4 * t + i)); rfl; rfl; exact (rfl : _ = Value.slice (some ⟨_, _, _⟩) _ _); (exact (rfl : _ = Value.int _ _)); (exact (rfl : _ = some (_, 1))); omega; omega; omega)
     | ((with_reducible apply Zac); rfl; rfl; (first
     | exact (rfl : _ = Value.int _ _)
     | exact (rfl : _ = Value.slice _ _ _)))
     | ((with_reducible apply Z3); rfl; rfl; (exact (rfl : _ = Value.int _ _)))
     | ((with_reducible apply Zl); rfl; rfl; (exact (rfl : _ = Value.int _ _)); (exact (rfl : _ = Value.int _ _)); (first
     | with_reducible exact Zcc (by omega)
     | with_reducible exact Za3 rfl (by omega) (by omega)
     | with_reducible exact Zlx rfl (by omega) (by omega)
     | with_reducible exact Zpj (by first | exact ofI _ _ | rfl) (by first | exact ofI _ _ | rfl)
     | with_reducible exact mul32 (by first | exact ofI _ _ | rfl) (by first | exact ofI _ _ | rfl)))
     | ((with_reducible apply Zc6); rfl; rfl; (exact (rfl : _ = Value.int _ _)); (exact Z2t rfl rfl (by first | exact Zet _ | rfl)))
     | ((with_reducible apply Zad); rfl; rfl; exact (rfl : _ = Value.pointer (some ⟨_, _, _⟩)); (exact Zee rfl rfl rfl (by omega) (fun _ => rfl)))
     | ((with_reducible apply Zay); rfl; exact (rfl : _ = Value.pointer (some ⟨_, _, _⟩)); (exact (rfl : _ = Value.int _ _)); (exact Zfb rfl rfl rfl rfl rfl (by omega) rfl rfl); exact (rfl : _ = _ :: _))
     | with_reducible refine Za ?_
     | with_reducible refine Zg ?_
     | with_reducible refine Zf ?_
     | with_reducible refine Z1 ?_
     | with_reducible refine Z0 ?_
     | with_reducible refine Zc ?_
     | with_reducible refine Z4 ?_
     | (with_reducible refine Zb3 (by kernel_rfl) ?_)
     | (with_reducible refine Zc1 (by kernel_rfl) ?_)
     | ((with_reducible apply Zx); rfl))
    refine Zao ⟨i + 1, by omega, by omega, ?_⟩
    have e : inR b (4 * t + (i + 1)) = Zfg w t (w t * BitVec.ofInt 32 256 + (b (4 * t + i)).setWidth 32) := by
     rw [show 4 * t + (i + 1) = (4 * t + i) + 1 from rfl, inR, show (4 * t + i) / 4 = t from by omega, hw]
    rw [e]
    refine Z5 (n := 3) rfl ?_ rfl rfl
    repeat (first | exact trivial | refine ⟨.inl rfl, ?_⟩ | refine ⟨.inr ⟨rfl, rfl⟩, ?_⟩)
   ·obtain rfl : i = 4 := by omega
    repeat (first
     | ((with_reducible apply Zac); rfl; rfl; (exact (rfl : _ = Value.int _ _)))
     | ((with_reducible apply Z3); rfl; rfl; (exact (rfl : _ = Value.int _ _)))
     | ((with_reducible apply Zl); rfl; rfl; (exact (rfl : _ = Value.int _ _)); (exact (rfl : _ = Value.int _ _)); (first
     | with_reducible exact Zb5 (by omega)
     | with_reducible exact Za3 rfl (by omega) (by omega)))
     | with_reducible refine Za ?_
     | with_reducible refine Zg ?_
     | with_reducible refine Zf ?_
     | with_reducible refine Zbb ?_
     | with_reducible refine Zc ?_
     | with_reducible refine Zaq ?_
     | with_reducible refine Z4 ?_
     | with_reducible refine Zau ?_
     | ((with_reducible apply Zu); rfl)
     | ((with_reducible apply Zax); rfl))
    refine Zao ⟨t + 1, by omega, by omega, ?_⟩
    refine Z5 (n := 3) rfl ?_ rfl rfl
    repeat (first | exact trivial | refine ⟨.inl rfl, ?_⟩ | refine ⟨.inr ⟨rfl, rfl⟩, ?_⟩)
  ·obtain rfl : t = 16 := by omega
   repeat (first
    | ((with_reducible apply Zac); rfl; rfl; (exact (rfl : _ = Value.int _ _)))
    | ((with_reducible apply Z3); rfl; rfl; (exact (rfl : _ = Value.int _ _)))
    | ((with_reducible apply Zl); rfl; rfl; (exact (rfl : _ = Value.int _ _)); (exact (rfl : _ = Value.int _ _)); (with_reducible exact Zb5 (by omega)))
    | with_reducible refine Za ?_
    | with_reducible refine Zg ?_
    | with_reducible refine Zf ?_
    | with_reducible refine Z1 ?_
    | with_reducible refine Zbb ?_
    | with_reducible refine Zc ?_
    | with_reducible refine Zaq ?_
    | with_reducible refine Zau ?_
    | ((with_reducible apply Zu); rfl)
    | ((with_reducible apply Zax); rfl))
   refine Zbg (fun k : Nat => [sl 0 0 64 c, dead, pt 1 0, pt 2 0, dead, dead, Iv ((16 + k : Nat) : Int)]) (fun k : Nat => [byB 64 b, Zrg (fun _ => 0), Zrg (Zjq b k)]) (fun k => k ≤ 48) (fun k => 48 - k) 0 (by omega) ?_ ?_
   ·refine Z5 (n := 3) rfl ?_ rfl rfl
    repeat (first | exact trivial | refine ⟨.inl rfl, ?_⟩ | refine ⟨.inr ⟨rfl, rfl⟩, ?_⟩)
   ·intro k hk
    by_cases hlt : k < 48
    ·generalize hw : Zjq b k = w
     repeat (first
      | ((with_reducible apply Zbw (j := 16 + k)); rfl; rfl; exact (rfl : _ = Value.pointer (some ⟨_, _, _⟩)); (exact (rfl : _ = Value.int _ _)); (exact (rfl : _ = some (_, 1))); omega; omega; omega)
      | ((with_reducible apply Zbw (j := 16 + k - 15)); rfl; rfl; exact (rfl : _ = Value.pointer (some ⟨_, _, _⟩)); (exact (rfl : _ = Value.int _ _)); (exact (rfl : _ = some (_, 1))); omega; omega; omega)
      | ((with_reducible apply Zbw (j := 16 + k - 2)); rfl; rfl; exact (rfl : _ = Value.pointer (some ⟨_, _, _⟩)); (exact (rfl : _ = Value.int _ _)); (exact (rfl : _ = some (_, 1))); omega; omega; omega)
      | ((with_reducible apply Zbw (j := 16 + k - 16)); rfl; rfl; exact (rfl : _ = Value.pointer (some ⟨_, _, _⟩)); (exact (rfl : _ = Value.int _ _)); (exact (rfl : _ = some (_, 1))); omega; omega; omega)
      | ((with_reducible apply Zbw (j := 16 + k - 7)); rfl; rfl; exact (rfl : _ = Value.pointer (some ⟨_, _, _⟩)); (exact (rfl : _ = Value.int _ _)); (exact (rfl : _ = some (_, 1))); omega; omega; omega)
      | ((with_reducible apply Zac); rfl; rfl; (exact (rfl : _ = Value.int _ _)))
      | ((with_reducible apply Z3); rfl; rfl; (exact (rfl : _ = Value.int _ _)))
      | ((with_reducible apply Zl); rfl; rfl; (exact (rfl : _ = Value.int _ _)); (exact (rfl : _ = Value.int _ _)); (first
      | with_reducible exact Zcc (by omega)
      | with_reducible exact Za3 rfl (by omega) (by omega)
      | with_reducible exact Zc4 rfl (by omega) (by omega)
      | with_reducible exact Zpj (by first | exact ofI _ _ | rfl) (by first | exact ofI _ _ | rfl)
      | with_reducible exact Zsf (by omega)
      | with_reducible exact Zvt (by first | exact ofI _ _ | rfl) (by first | exact ofI _ _ | rfl)))
      | ((with_reducible apply Zad); rfl; rfl; exact (rfl : _ = Value.pointer (some ⟨_, _, _⟩)); (exact Zee rfl rfl rfl (by omega) (fun _ => rfl)))
      | ((with_reducible apply Zay); rfl; exact (rfl : _ = Value.pointer (some ⟨_, _, _⟩)); (exact (rfl : _ = Value.int _ _)); (exact Zfb rfl rfl rfl rfl rfl (by omega) rfl rfl); exact (rfl : _ = _ :: _))
      | ((with_reducible apply Zo (Znc _ 7 (by decide))); rfl; rfl; rfl; rfl; rfl; (exact (rfl : _ = Value.int _ _)))
      | ((with_reducible apply Zo (Znc _ 18 (by decide))); rfl; rfl; rfl; rfl; rfl; (exact (rfl : _ = Value.int _ _)))
      | ((with_reducible apply Zo (Znc _ 17 (by decide))); rfl; rfl; rfl; rfl; rfl; (exact (rfl : _ = Value.int _ _)))
      | ((with_reducible apply Zo (Znc _ 19 (by decide))); rfl; rfl; rfl; rfl; rfl; (exact (rfl : _ = Value.int _ _)))
      | with_reducible refine Za ?_
      | with_reducible refine Zg ?_
      | with_reducible refine Zf ?_
      | with_reducible refine Z1 ?_
      | with_reducible refine Z0 ?_
      | with_reducible refine Zc ?_
      | with_reducible refine Z4 ?_
      | (with_reducible refine Zb3 (by kernel_rfl) ?_)
      | (with_reducible refine Zc1 (by kernel_rfl) ?_)
      | ((with_reducible apply Zx); rfl))
     refine Zao ⟨k + 1, by omega, by omega, ?_⟩
     have e : Zjq b (k + 1) = Zfg w (16 + k) (Zyo w (16 + k)) := by
      show Zfg (Zjq b k) (16 + k) (Zyo (Zjq b k) (16 + k)) = _
      rw [hw]
     rw [e]
     refine Z5 (n := 3) rfl ?_ rfl rfl
     repeat (first | exact trivial | refine ⟨.inl rfl, ?_⟩ | refine ⟨.inr ⟨rfl, rfl⟩, ?_⟩)
    ·obtain rfl : k = 48 := by omega
     repeat (first
      | ((with_reducible apply Zac); rfl; rfl; (exact (rfl : _ = Value.int _ _)))
      | ((with_reducible apply Zl); rfl; rfl; (exact (rfl : _ = Value.int _ _)); (exact (rfl : _ = Value.int _ _)); (with_reducible exact Zb5 (by omega)))
      | ((with_reducible apply Zad); rfl; rfl; exact (rfl : _ = Value.pointer (some ⟨_, _, _⟩)); (exact (rfl : _ = some (Value.agg _))))
      | ((with_reducible apply Zay); rfl; exact (rfl : _ = Value.pointer (some ⟨_, _, _⟩)); (exact (rfl : _ = Value.agg _)); (rfl); exact (rfl : _ = _ :: _))
      | with_reducible refine Za ?_
      | with_reducible refine Zg ?_
      | with_reducible refine Zf ?_
      | with_reducible refine Zbb ?_
      | with_reducible refine Zq ?_
      | with_reducible refine Zc ?_
      | with_reducible refine Zaq ?_
      | with_reducible refine Zau ?_
      | ((with_reducible apply Zu); rfl)
      | ((with_reducible apply Zax); rfl))
     refine Zr ?_
     refine Zk (v := .agg (Zag w32 64 (Zjq b 48)).toArray) rfl rfl rfl ?_ ?_
     ·rfl
     ·exact Zbm (Zbu fun _ => rfl) rfl
end Go.Flat
end
section
namespace Go.Flat
open Go.Proofs
variable {G : Glob}
def Z1q (k : BitVec 32) (v w : Nat → BitVec 32) (t : Nat) : BitVec 32 := v 7 + (Zhv (v 4) 6 ^^^ Zhv (v 4) 11 ^^^ Zhv (v 4) 25) + ((v 4 &&& v 5) ^^^ (~~~(v 4) &&& v 6)) + k + w t
def Z1u (v : Nat → BitVec 32) : BitVec 32 := (Zhv (v 0) 2 ^^^ Zhv (v 0) 13 ^^^ Zhv (v 0) 22) + ((v 0 &&& v 1) ^^^ (v 0 &&& v 2) ^^^ (v 1 &&& v 2))
def Zmx (kk : Nat → BitVec 32) (v w : Nat → BitVec 32) : Nat → Nat → BitVec 32
  | 0 => v
  | t + 1 => Zrx (Z1q (kk t) (Zmx kk v w t) w t) (Z1u (Zmx kk v w t)) (Zmx kk v w t)
def Z00 (kk : Nat → BitVec 32) (v : Nat → BitVec 32) (b : Nat → BitVec 8) : Nat → BitVec 32 := Zva v (Zmx kk v (Zjq b 48) 64) 8
theorem Z35 {P : Program} {x : Int} {a : BitVec 32} (hx : BitVec.ofInt 32 x = a) : unD P .xor (.int .u32 x) = some (.int .u32 ((~~~a).toNat : Int)) := by
 subst hx
 unfold unD
 rw [if_pos (show Zb7 (.int .u32 x) = true from rfl)]
 have : Zae P (Op.unary .xor (.int .u32 x)) = some (.int .u32 (IntKind.u32.wrap ((BitVec.ofInt 32 4294967295 ^^^ BitVec.ofInt 32 x).toNat : Int))) := rfl
 rw [this, Z3b, ofI]
 rw [show BitVec.ofInt 32 4294967295 = BitVec.allOnes 32 from by decide, BitVec.allOnes_xor]
 rfl
theorem Z3v {H : List Blk} {e : Emb} {id : Nat} {L B : Blk} (hB : H[id]? = some B) (hf : (decide (0 < L.sz) && decide (0 < B.sz) && L.fix == B.fix && (L.fix || L.sz == B.sz) && (!L.pur || B.pur) && !L.wr) = true) (hc : B.cells = L.cells) (hR : Zdi e L = L.cells) : Zek H e (some (id, 0)) L :=
 Zeb hB hf (by rw [hc]; omega) (by rw [hc, hR]; simp)
attribute [local irreducible] Zhv
set_option maxHeartbeats 4000000 in
set_option maxRecDepth 20000 in
theorem Z2p (kk : Nat → BitVec 32) (hG : G 2 = some (Zag w32 64 kk)) (v : Nat → BitVec 32) (b : Nat → BitVec 8) (c : Nat) (hc : 64 ≤ c) : Z6 Tryz.prog G 95 [.agg (Zag w32 8 v).toArray, sl 0 0 64 c] [byB 64 b] (.agg (Zag w32 8 (Z00 kk v b)).toArray) [byB 64 b] := by
 refine Za8 (fn := Tryz.f95) (nt := 116) rfl rfl rfl rfl ?_
 refine Zaa 4 (H' := [byB 64 b, hole, hole, hole, hole]) rfl ?_
 repeat (first
  | ((with_reducible apply Z2 (e := [some (0, 0)]) (nid := 0) (Z4g b c)); rfl; rfl; rfl; rfl; rfl; rfl; rfl; refine ⟨⟨⟨rfl, rfl, rfl, Nat.le_refl _, by omega⟩, trivial⟩, ⟨Z3v rfl rfl rfl rfl, trivial⟩, rfl, rfl, rfl⟩; exact (rfl : _ = Value.agg _); exact (rfl : _ = _ :: _))
  | ((with_reducible apply Zac); rfl; rfl; (exact (rfl : _ = Value.slice _ _ _)))
  | ((with_reducible apply Z3); rfl; rfl; (exact (rfl : _ = Value.int _ _)))
  | ((with_reducible apply Zad); rfl; rfl; exact (rfl : _ = Value.pointer (some ⟨_, _, _⟩)); (exact (rfl : _ = some (Value.agg _))))
  | ((with_reducible apply Zay); rfl; exact (rfl : _ = Value.pointer (some ⟨_, _, _⟩)); (exact (rfl : _ = Value.agg _)); (rfl); exact (rfl : _ = _ :: _))
  | ((with_reducible apply Zk4 (nid := 1)); rfl; rfl; (exact (rfl : _ = Value.agg _)); rfl; exact (rfl : _ = _ :: _))
  | ((with_reducible apply Zbs (nid := 2)); rfl; rfl; rfl; exact (rfl : _ = _ :: _))
  | ((with_reducible apply Zbs (nid := 3)); rfl; rfl; rfl; exact (rfl : _ = _ :: _))
  | ((with_reducible apply Zbs (nid := 4)); rfl; rfl; rfl; exact (rfl : _ = _ :: _))
  | with_reducible refine Za ?_
  | with_reducible refine Zg ?_
  | with_reducible refine Zf ?_
  | with_reducible refine Z1 ?_
  | with_reducible refine Zc ?_)
 have hB : Z00 kk v b = Zva v (Zmx kk v (Zjq b 48) 64) 8 := rfl
 generalize Zjq b 48 = W at hB ⊢
 refine Zbg (fun t : Nat => [dead, dead, pt 1 0, dead, pt 2 0, pt 3 0, pt 4 0, Iv (t : Nat)]) (fun t : Nat => [byB 64 b, vB v, vB (fun _ => 0), Zrg (W), vB (Zmx kk v (W) t)]) (fun t => t ≤ 64) (fun t => 64 - t) 0 (by omega) ?_ ?_
 ·refine Z5 (n := 5) rfl ?_ ?_ rfl
  repeat (first | exact trivial | refine ⟨.inl rfl, ?_⟩ | refine ⟨.inr ⟨rfl, rfl⟩, ?_⟩)
  ·rfl
 ·intro t ht
  by_cases hlt : t < 64
  ·generalize hv : Zmx kk v (W) t = vt
   iterate 52 (first
    | ((with_reducible apply Zad); rfl; rfl; exact (rfl : _ = Value.pointer (some ⟨_, _, some _⟩)); exact (show _ = some (w32 (kk t)) from Zmc rfl hG (by omega) (fun _ => rfl)))
    | ((with_reducible apply Zg5); rfl; rfl; exact (rfl : _ = Value.int _ _); exact Z35 (ofI _ _))
    | ((with_reducible apply Zbw (j := t)); rfl; rfl; exact (rfl : _ = Value.pointer (some ⟨_, _, _⟩)); (exact (rfl : _ = Value.int _ _)); (exact (rfl : _ = some (_, 1))); omega; omega; omega)
    | ((with_reducible apply Zbw (j := 4)); rfl; rfl; exact (rfl : _ = Value.pointer (some ⟨_, _, _⟩)); (exact (rfl : _ = Value.int _ _)); (exact (rfl : _ = some (_, 1))); omega; omega; omega)
    | ((with_reducible apply Zbw (j := 5)); rfl; rfl; exact (rfl : _ = Value.pointer (some ⟨_, _, _⟩)); (exact (rfl : _ = Value.int _ _)); (exact (rfl : _ = some (_, 1))); omega; omega; omega)
    | ((with_reducible apply Zbw (j := 6)); rfl; rfl; exact (rfl : _ = Value.pointer (some ⟨_, _, _⟩)); (exact (rfl : _ = Value.int _ _)); (exact (rfl : _ = some (_, 1))); omega; omega; omega)
    | ((with_reducible apply Zbw (j := 7)); rfl; rfl; exact (rfl : _ = Value.pointer (some ⟨_, _, _⟩)); (exact (rfl : _ = Value.int _ _)); (exact (rfl : _ = some (_, 1))); omega; omega; omega)
    | ((with_reducible apply Zac); rfl; rfl; (exact (rfl : _ = Value.int _ _)))
    | ((with_reducible apply Z3); rfl; rfl; (exact (rfl : _ = Value.int _ _)))
    | ((with_reducible apply Zl); rfl; rfl; (exact (rfl : _ = Value.int _ _)); (exact (rfl : _ = Value.int _ _)); (first
    | with_reducible exact Zcc (by omega)
    | with_reducible exact Zpj (by first | exact ofI _ _ | rfl) (by first | exact ofI _ _ | rfl)
    | with_reducible exact Z4z (by first | exact ofI _ _ | rfl) (by first | exact ofI _ _ | rfl)
    | with_reducible exact Zvt (by first | exact ofI _ _ | rfl) (by first | exact ofI _ _ | rfl)))
    | ((with_reducible apply Zad); rfl; rfl; exact (rfl : _ = Value.pointer (some ⟨_, _, _⟩)); (exact Zee rfl rfl rfl (by omega) (fun _ => rfl)))
    | ((with_reducible apply Zo (Zsh 6 _ (by decide))); rfl; rfl; rfl; rfl; rfl; (exact (rfl : _ = Value.int _ _)))
    | ((with_reducible apply Zo (Zsh 11 _ (by decide))); rfl; rfl; rfl; rfl; rfl; (exact (rfl : _ = Value.int _ _)))
    | ((with_reducible apply Zo (Zsh 25 _ (by decide))); rfl; rfl; rfl; rfl; rfl; (exact (rfl : _ = Value.int _ _)))
    | with_reducible refine Za ?_
    | with_reducible refine Zg ?_
    | with_reducible refine Zf ?_
    | with_reducible refine Z1 ?_
    | with_reducible refine Z0 ?_
    | with_reducible refine Zc ?_
    | (with_reducible refine Zb3 (by kernel_rfl) ?_)
    | (with_reducible refine Zc1 (by kernel_rfl) ?_)
    | ((with_reducible apply Zx); rfl))
   refine Zbo (s' := ⟨Tl [dead, dead, pt 1 0, dead, pt 2 0, pt 3 0, pt 4 0, Iv (t : Nat), w32 (Z1q (kk t) vt W t)], [byB 64 b, vB v, vB (fun _ => 0), Zrg W, vB vt]⟩) ?_ ?_
   ·refine Z5 (n := 5) rfl ?_ rfl rfl
    repeat (first | exact trivial | refine ⟨.inl rfl, ?_⟩ | refine ⟨.inr ⟨rfl, rfl⟩, ?_⟩)
   generalize hp : Z1q (kk t) vt W t = p
   iterate 34 (first
    | ((with_reducible apply Zbw (j := 0)); rfl; rfl; exact (rfl : _ = Value.pointer (some ⟨_, _, _⟩)); (exact (rfl : _ = Value.int _ _)); (exact (rfl : _ = some (_, 1))); omega; omega; omega)
    | ((with_reducible apply Zbw (j := 1)); rfl; rfl; exact (rfl : _ = Value.pointer (some ⟨_, _, _⟩)); (exact (rfl : _ = Value.int _ _)); (exact (rfl : _ = some (_, 1))); omega; omega; omega)
    | ((with_reducible apply Zbw (j := 2)); rfl; rfl; exact (rfl : _ = Value.pointer (some ⟨_, _, _⟩)); (exact (rfl : _ = Value.int _ _)); (exact (rfl : _ = some (_, 1))); omega; omega; omega)
    | ((with_reducible apply Z3); rfl; rfl; (exact (rfl : _ = Value.int _ _)))
    | ((with_reducible apply Zl); rfl; rfl; (exact (rfl : _ = Value.int _ _)); (exact (rfl : _ = Value.int _ _)); (first
    | with_reducible exact Zpj (by first | exact ofI _ _ | rfl) (by first | exact ofI _ _ | rfl)
    | with_reducible exact Z4z (by first | exact ofI _ _ | rfl) (by first | exact ofI _ _ | rfl)
    | with_reducible exact Zvt (by first | exact ofI _ _ | rfl) (by first | exact ofI _ _ | rfl)))
    | ((with_reducible apply Zad); rfl; rfl; exact (rfl : _ = Value.pointer (some ⟨_, _, _⟩)); (exact Zee rfl rfl rfl (by omega) (fun _ => rfl)))
    | ((with_reducible apply Zo (Zsh 2 _ (by decide))); rfl; rfl; rfl; rfl; rfl; (exact (rfl : _ = Value.int _ _)))
    | ((with_reducible apply Zo (Zsh 13 _ (by decide))); rfl; rfl; rfl; rfl; rfl; (exact (rfl : _ = Value.int _ _)))
    | ((with_reducible apply Zo (Zsh 22 _ (by decide))); rfl; rfl; rfl; rfl; rfl; (exact (rfl : _ = Value.int _ _)))
    | with_reducible refine Zf ?_
    | with_reducible refine Zc ?_
    | (with_reducible refine Zb3 (by kernel_rfl) ?_)
    | (with_reducible refine Zc1 (by kernel_rfl) ?_))
   refine Zbo (s' := ⟨Tl [dead, dead, pt 1 0, dead, pt 2 0, pt 3 0, pt 4 0, Iv (t : Nat), w32 p, w32 (Z1u vt)], [byB 64 b, vB v, vB (fun _ => 0), Zrg W, vB vt]⟩) ?_ ?_
   ·refine Z5 (n := 5) rfl ?_ rfl rfl
    repeat (first | exact trivial | refine ⟨.inl rfl, ?_⟩ | refine ⟨.inr ⟨rfl, rfl⟩, ?_⟩)
   generalize hq : Z1u vt = q
   repeat (first
    | ((with_reducible apply Za5); rfl; rfl; rfl; exact (show _ = some (Value.agg (Zag w32 8 (Zrx p q vt)).toArray) by kernel_rfl))
    | ((with_reducible apply Zay); rfl; exact (rfl : _ = Value.pointer (some ⟨4, _, _⟩)); exact (rfl : _ = Value.agg _); exact (show _ = some (4, vB (Zrx p q vt)) by kernel_rfl); exact (show _ = [byB 64 b, vB v, vB (fun _ => 0), Zrg W, vB (Zrx p q vt)] by kernel_rfl))
    | ((with_reducible apply Zbw (j := 0)); rfl; rfl; exact (rfl : _ = Value.pointer (some ⟨_, _, _⟩)); (exact (rfl : _ = Value.int _ _)); (exact (rfl : _ = some (_, 1))); omega; omega; omega)
    | ((with_reducible apply Zbw (j := 1)); rfl; rfl; exact (rfl : _ = Value.pointer (some ⟨_, _, _⟩)); (exact (rfl : _ = Value.int _ _)); (exact (rfl : _ = some (_, 1))); omega; omega; omega)
    | ((with_reducible apply Zbw (j := 2)); rfl; rfl; exact (rfl : _ = Value.pointer (some ⟨_, _, _⟩)); (exact (rfl : _ = Value.int _ _)); (exact (rfl : _ = some (_, 1))); omega; omega; omega)
    | ((with_reducible apply Zbw (j := 3)); rfl; rfl; exact (rfl : _ = Value.pointer (some ⟨_, _, _⟩)); (exact (rfl : _ = Value.int _ _)); (exact (rfl : _ = some (_, 1))); omega; omega; omega)
    | ((with_reducible apply Zbw (j := 4)); rfl; rfl; exact (rfl : _ = Value.pointer (some ⟨_, _, _⟩)); (exact (rfl : _ = Value.int _ _)); (exact (rfl : _ = some (_, 1))); omega; omega; omega)
    | ((with_reducible apply Zbw (j := 5)); rfl; rfl; exact (rfl : _ = Value.pointer (some ⟨_, _, _⟩)); (exact (rfl : _ = Value.int _ _)); (exact (rfl : _ = some (_, 1))); omega; omega; omega)
    | ((with_reducible apply Zbw (j := 6)); rfl; rfl; exact (rfl : _ = Value.pointer (some ⟨_, _, _⟩)); (exact (rfl : _ = Value.int _ _)); (exact (rfl : _ = some (_, 1))); omega; omega; omega)
    | ((with_reducible apply Zac); rfl; rfl; (exact (rfl : _ = Value.int _ _)))
    | ((with_reducible apply Z3); rfl; rfl; (exact (rfl : _ = Value.int _ _)))
    | ((with_reducible apply Zl); rfl; rfl; (exact (rfl : _ = Value.int _ _)); (exact (rfl : _ = Value.int _ _)); (first
    | with_reducible exact Za3 rfl (by omega) (by omega)
    | with_reducible exact Zpj (by first | exact ofI _ _ | rfl) (by first | exact ofI _ _ | rfl)))
    | ((with_reducible apply Zad); rfl; rfl; exact (rfl : _ = Value.pointer (some ⟨_, _, _⟩)); (exact Zee rfl rfl rfl (by omega) (fun _ => rfl)))
    | with_reducible refine Za ?_
    | with_reducible refine Zg ?_
    | with_reducible refine Zc ?_
    | with_reducible refine Z4 ?_)
   have e : Zmx kk v W (t + 1) = Zrx p q vt := by
    show Zrx (Z1q (kk t) (Zmx kk v W t) W t) (Z1u (Zmx kk v W t)) (Zmx kk v W t) = _
    rw [hv, hp, hq]
   refine Zao ⟨t + 1, by omega, by omega, ?_⟩
   rw [e]
   refine Z5 (n := 5) rfl ?_ ?_ rfl
   repeat (first | exact trivial | refine ⟨.inl rfl, ?_⟩ | refine ⟨.inr ⟨rfl, rfl⟩, ?_⟩)
   ·rfl
  ·obtain rfl : t = 64 := by omega
   generalize hv : Zmx kk v (W) 64 = vt
   repeat (first
    | ((with_reducible apply Zac); rfl; rfl; (exact (rfl : _ = Value.int _ _)))
    | ((with_reducible apply Z3); rfl; rfl; (exact (rfl : _ = Value.int _ _)))
    | ((with_reducible apply Zl); rfl; rfl; (exact (rfl : _ = Value.int _ _)); (exact (rfl : _ = Value.int _ _)); (with_reducible exact Zb5 (by omega)))
    | with_reducible refine Za ?_
    | with_reducible refine Zg ?_
    | with_reducible refine Zf ?_
    | with_reducible refine Z1 ?_
    | with_reducible refine Zbb ?_
    | with_reducible refine Zc ?_
    | with_reducible refine Zaq ?_
    | with_reducible refine Zau ?_
    | ((with_reducible apply Zu); rfl)
    | ((with_reducible apply Zax); rfl))
   refine Zbg (fun x : Nat => [dead, dead, pt 1 0, dead, pt 2 0, pt 3 0, pt 4 0, dead, dead, dead, Iv (x : Nat)]) (fun x : Nat => [byB 64 b, vB (Zva v vt x), vB (fun _ => 0), Zrg (W), vB vt]) (fun x => x ≤ 8) (fun x => 8 - x) 0 (by omega) ?_ ?_
   ·refine Z5 (n := 5) rfl ?_ rfl rfl
    repeat (first | exact trivial | refine ⟨.inl rfl, ?_⟩ | refine ⟨.inr ⟨rfl, rfl⟩, ?_⟩)
   ·intro x hx
    by_cases hlt : x < 8
    repeat (first
     | ((with_reducible apply Zbw (j := x)); rfl; rfl; exact (rfl : _ = Value.pointer (some ⟨_, _, _⟩)); (exact (rfl : _ = Value.int _ _)); (exact (rfl : _ = some (_, 1))); omega; omega; omega)
     | ((with_reducible apply Zac); rfl; rfl; (exact (rfl : _ = Value.int _ _)))
     | ((with_reducible apply Z3); rfl; rfl; (exact (rfl : _ = Value.int _ _)))
     | ((with_reducible apply Zl); rfl; rfl; (exact (rfl : _ = Value.int _ _)); (exact (rfl : _ = Value.int _ _)); (first
     | with_reducible exact Zcc (by omega)
     | with_reducible exact Za3 rfl (by omega) (by omega)
     | with_reducible exact Zpj (by first | exact ofI _ _ | rfl) (by first | exact ofI _ _ | rfl)))
     | ((with_reducible apply Zad); rfl; rfl; exact (rfl : _ = Value.pointer (some ⟨_, _, _⟩)); (exact Zee rfl rfl rfl (by omega) (fun _ => rfl)))
     | ((with_reducible apply Zay); rfl; exact (rfl : _ = Value.pointer (some ⟨_, _, _⟩)); (exact (rfl : _ = Value.int _ _)); (exact Zfb rfl rfl rfl rfl rfl (by omega) rfl rfl); exact (rfl : _ = _ :: _))
     | with_reducible refine Za ?_
     | with_reducible refine Zg ?_
     | with_reducible refine Zf ?_
     | with_reducible refine Z1 ?_
     | with_reducible refine Z0 ?_
     | with_reducible refine Zc ?_
     | with_reducible refine Z4 ?_
     | (with_reducible refine Zb3 (by kernel_rfl) ?_)
     | (with_reducible refine Zc1 (by kernel_rfl) ?_)
     | ((with_reducible apply Zx); rfl))
    refine Zao ⟨x + 1, by omega, by omega, ?_⟩
    refine Z5 (n := 5) rfl ?_ rfl rfl
    repeat (first | exact trivial | refine ⟨.inl rfl, ?_⟩ | refine ⟨.inr ⟨rfl, rfl⟩, ?_⟩)
    ·obtain rfl : x = 8 := by omega
     repeat (first
      | ((with_reducible apply Zac); rfl; rfl; (exact (rfl : _ = Value.int _ _)))
      | ((with_reducible apply Zl); rfl; rfl; (exact (rfl : _ = Value.int _ _)); (exact (rfl : _ = Value.int _ _)); (with_reducible exact Zb5 (by omega)))
      | ((with_reducible apply Zad); rfl; rfl; exact (rfl : _ = Value.pointer (some ⟨_, _, _⟩)); (exact (rfl : _ = some (Value.agg _))))
      | ((with_reducible apply Zay); rfl; exact (rfl : _ = Value.pointer (some ⟨_, _, _⟩)); (exact (rfl : _ = Value.agg _)); (rfl); exact (rfl : _ = _ :: _))
      | with_reducible refine Za ?_
      | with_reducible refine Zg ?_
      | with_reducible refine Zf ?_
      | with_reducible refine Zbb ?_
      | with_reducible refine Zq ?_
      | with_reducible refine Zc ?_
      | with_reducible refine Zaq ?_
      | with_reducible refine Zau ?_
      | ((with_reducible apply Zu); rfl)
      | ((with_reducible apply Zax); rfl))
     refine Zr ?_
     rw [hv] at hB
     rw [hB]
     refine Zk (v := .agg (Zag w32 8 (Zva v vt 8)).toArray) rfl rfl rfl ?_ ?_
     ·rfl
     ·exact Zbm (Zbu fun _ => rfl) rfl
end Go.Flat
end
section
namespace Go.Flat
open Go.Proofs
variable {G : Glob}
theorem Z4y {P : Program} {H : List Blk} {t : TypeId} {s : ByteArray} {nid by_ : Nat} {zc : List Value} (ht : Zdo P t = some (1, zc, by_)) (hz : (zc.length == 1 && zc.all Zhh) = true) (hby : 0 < by_) (hm : s.size * by_ ≤ 140737488355328) (hf : Zd3 H nid = true) :
  Zt6 P H t Zuw (.string s) nid = some (slv nid 0 s.size s.size, Zah (bl s)) := by
 rw [Bool.and_eq_true, beq_iff_eq] at hz
 unfold Zt6
 rw [ht]
 have hs : Zgh H 1 (.string s) = some (s.size, Zfa s) := rfl
 simp only [hs, Option.bind_some]
 rw [if_pos ⟨trivial, trivial, hz.1, by rw [hz.2]; exact Zpb s, by decide, hby, hm, hf⟩, hz.2, Zjp]
 rfl
theorem Zhj {P : Program} {H : List Blk} {t : TypeId} {q : Value} {b c n k n' by_ : Nat} {zc : List Value} {ls : Bs} {ms : List Value} {ms' : Bs} (ht : Zdo P t = some (1, zc, by_)) (hz : zc.length = 1) (hs : Zgh H 1 q = some (k, ms)) (hms : ms = ms'.map w8) (hb : H[b]? = some (Zah ls)) (hn : ls.length = n) (hk : n + k = n') (hby : 0 < by_) (hm : n' * by_ ≤ 140737488355328) :
  Zpv P H t (slv b 0 n c) q = some (slv b 0 n' n', b, Zah (ls ++ ms')) := by
 subst hms
 have hc : (Zah ls).cells.length = n := by show (ls.map w8).length = _; simp [hn]
 rw [Zey (n' := n') (p := (k, ms'.map w8)) ht hs hb rfl rfl hz (Z1n ms') (by rw [hc]; omega) hby hk hm]
 have : List.take (n * 1) (List.drop 0 (Zah ls).cells) ++ ms'.map w8 = (ls ++ ms').map w8 := by
  rw [List.drop_zero, List.take_of_length_le (by rw [hc]; omega), List.map_append]; rfl
 simp only [this]
 rfl
set_option maxHeartbeats 8000000 in
theorem Z7s (s : ByteArray) (hs : s.size ≤ 70368744177664) :
  Z6 Tryz.prog G 94 [.string s] [] (slv 0 0 (bl s ++ Zdw (bl s) 8).length (bl s ++ Zdw (bl s) 8).length) [Zah (bl s ++ Zdw (bl s) 8)] := by
 refine Za8 (fn := Tryz.f94) (nt := 36) rfl rfl rfl rfl ?_
 have hsl : (bl s).length = s.size := Zht s
 have htl : (tl (bl s)).length = s.size % 64 := by rw [Zqo, hsl]; omega
 refine Zaa 2 (H' := [hole, hole]) rfl ?_
 repeat (first
  | ((with_reducible apply Z3g (nid := 0)); rfl; rfl; rfl; exact .inr rfl; exact (rfl : _ = Zuw); exact (rfl : _ = Value.string _); exact Z4y (rfl : _ = some (1, _, 1)) rfl (by decide) (by omega) rfl; exact (show _ = [Zah (bl s), hole] by kernel_rfl))
  | ((with_reducible apply Zdb (nid := 1)); rfl; rfl; rfl; exact (rfl : _ = some (Value.slice _ _ _, _)); exact (rfl : _ = _ :: _))
  | ((with_reducible apply Zbp); rfl; rfl; rfl; exact .inl ⟨_, rfl⟩; exact (rfl : _ = Value.slice (some ⟨_, _, _⟩) _ _); exact (rfl : _ = Value.slice (some ⟨_, _, _⟩) _ _); exact Zhj (n := s.size) (k := 1) (n' := s.size + 1) (ls := bl s) (ms' := [128]) (rfl : _ = some (1, _, 1)) rfl (rfl : _ = some (1, _)) rfl rfl hsl rfl (by decide) (by omega); rfl; exact (rfl : _ = _ :: _))
  | ((with_reducible apply Zac); rfl; rfl; (first
  | exact (rfl : _ = Value.slice _ _ _)
  | exact (rfl : _ = Value.string _)))
  | ((with_reducible apply Z3); rfl; rfl; (exact (rfl : _ = Value.slice _ _ _)))
  | with_reducible refine Za ?_
  | with_reducible refine Zg ?_
  | with_reducible refine Zf ?_
  | with_reducible refine Z1 ?_
  | with_reducible refine Zc ?_)
 refine Zbg (fun j : Nat => [.string s, dead, dead, slv 0 0 (s.size + 1 + j) (s.size + 1 + j)]) (fun j : Nat => [Zah (bl s ++ (128 :: List.replicate j 0))]) (fun j => j ≤ (119 - s.size % 64) % 64) (fun j => (119 - s.size % 64) % 64 - j) 0 (by omega) ?_ ?_
 ·refine Z5 (n := 1) rfl ?_ rfl rfl
  repeat (first | exact trivial | refine ⟨.inl rfl, ?_⟩ | refine ⟨.inr ⟨rfl, rfl⟩, ?_⟩)
 ·intro j hj
  have hjl : (bl s ++ (128 :: List.replicate j 0)).length = s.size + 1 + j := by simp [hsl]; omega
  by_cases hlt : j < (119 - s.size % 64) % 64
  ·refine Zaa 1 (H' := [Zah (bl s ++ (128 :: List.replicate j 0)), hole]) rfl ?_
   have e : (bl s ++ (128 :: List.replicate j 0)) ++ [0] = bl s ++ (128 :: List.replicate (j + 1) 0) := by
    rw [List.replicate_succ']; simp
   repeat (first
    | ((with_reducible apply Zdb (nid := 1)); rfl; rfl; rfl; exact (rfl : _ = some (Value.slice _ _ _, _)); exact (rfl : _ = _ :: _))
    | ((with_reducible apply Zbp); rfl; rfl; rfl; exact .inl ⟨_, rfl⟩; exact (rfl : _ = Value.slice (some ⟨_, _, _⟩) _ _); exact (rfl : _ = Value.slice (some ⟨_, _, _⟩) _ _); exact Zhj (n := s.size + 1 + j) (k := 1) (n' := s.size + 1 + j + 1) (ls := bl s ++ (128 :: List.replicate j 0)) (ms' := [0]) (rfl : _ = some (1, _, 1)) rfl (rfl : _ = some (1, _)) rfl rfl hjl rfl (by decide) (by omega); rfl; exact (rfl : _ = _ :: _))
    | ((with_reducible apply Zac); rfl; rfl; (exact (rfl : _ = Value.slice _ _ _)))
    | ((with_reducible apply Z3); rfl; rfl; (exact (rfl : _ = Value.slice _ _ _)))
    | ((with_reducible apply Zl); rfl; rfl; (exact (rfl : _ = Value.int _ _)); (exact (rfl : _ = Value.int _ _)); (first
    | with_reducible exact Zea (by omega)
    | with_reducible exact Zq0 (by omega) (by omega)))
    | ((with_reducible apply Zdm); rfl; rfl; (exact (rfl : _ = Value.slice _ _ _)); (exact (rfl : _ = some (Value.int _ _))))
    | with_reducible refine Za ?_
    | with_reducible refine Zg ?_
    | with_reducible refine Zf ?_
    | with_reducible refine Z1 ?_
    | with_reducible refine Z0 ?_
    | with_reducible refine Zc ?_
    | with_reducible refine Z4 ?_
    | ((with_reducible apply Zx); rfl))
   refine Zao ⟨j + 1, by omega, by omega, ?_⟩
   rw [← e]
   refine Z5 (n := 1) rfl ?_ rfl rfl
   repeat (first | exact trivial | refine ⟨.inl rfl, ?_⟩ | refine ⟨.inr ⟨rfl, rfl⟩, ?_⟩)
  ·obtain rfl : j = (119 - s.size % 64) % 64 := by omega
   have hp : ∀ i, (bl s ++ Zdw (bl s) i).length = s.size + 1 + (119 - s.size % 64) % 64 + i := by
    intro i
    rw [List.length_append, hsl]
    unfold Zdw
    rw [Zna, htl]; omega
   have e0 : bl s ++ (128 :: List.replicate ((119 - s.size % 64) % 64) 0) = bl s ++ Zdw (bl s) 0 := by
    unfold Zdw Z2e Z7n
    rw [htl]
   rw [e0]
   have hcv : BitVec.ofInt 64 (s.size : Int) = BitVec.ofNat 64 s.size := BitVec.ofInt_natCast _ _
   have hlw : Zr5 (bl s) = BitVec.ofNat 64 s.size * BitVec.ofInt 64 8 := by unfold Zr5; rw [hsl]
   repeat (first
    | ((with_reducible apply Zc6); rfl; rfl; exact (rfl : _ = Value.int _ _); exact Zr0 rfl rfl hcv)
    | ((with_reducible apply Zac); rfl; rfl; (first
    | exact (rfl : _ = Value.slice _ _ _)
    | exact (rfl : _ = Value.string _)))
    | ((with_reducible apply Z3); rfl; rfl; (exact (rfl : _ = Value.int _ _)))
    | ((with_reducible apply Zl); rfl; rfl; (exact (rfl : _ = Value.int _ _)); (exact (rfl : _ = Value.int _ _)); (first
    | with_reducible exact Zdz (by omega)
    | with_reducible exact Z3z (by first | exact ofI _ _ | rfl) (by first | exact ofI _ _ | rfl)
    | with_reducible exact Zq0 (by omega) (by omega)))
    | ((with_reducible apply Zdm); rfl; rfl; (first
    | exact (rfl : _ = Value.slice _ _ _)
    | exact (rfl : _ = Value.string _)); (exact (rfl : _ = some (Value.int _ _))))
    | with_reducible refine Za ?_
    | with_reducible refine Zg ?_
    | with_reducible refine Zf ?_
    | with_reducible refine Z1 ?_
    | with_reducible refine Zbb ?_
    | with_reducible refine Zc ?_
    | with_reducible refine Zaq ?_
    | with_reducible refine Zau ?_
    | ((with_reducible apply Zu); rfl)
    | ((with_reducible apply Zax); rfl))
   refine Zbg (fun k : Nat => [.string s, dead, dead, slv 0 0 (bl s ++ Zdw (bl s) k).length (bl s ++ Zdw (bl s) k).length, w64 (Zr5 (bl s)), Iv (7 - (k : Int))]) (fun k : Nat => [Zah (bl s ++ Zdw (bl s) k)]) (fun k => k ≤ 8) (fun k => 8 - k) 0 (by omega) ?_ ?_
   ·rw [hp 0, hlw]
    refine Z5 (n := 1) rfl ?_ rfl rfl
    repeat (first | exact trivial | refine ⟨.inl rfl, ?_⟩ | refine ⟨.inr ⟨rfl, rfl⟩, ?_⟩)
   ·intro k hk
    by_cases hlt2 : k < 8
    ·have hpk := hp k
     have hpk1 := hp (k + 1)
     refine Zaa 1 (H' := [Zah (bl s ++ Zdw (bl s) k), hole]) rfl ?_
     have e : (bl s ++ Zdw (bl s) k) ++ [Zqh (Zr5 (bl s)) k] = bl s ++ Zdw (bl s) (k + 1) := by
      rw [List.append_assoc]; rfl
     have hsh : (8 * (7 - (k : Int))).toNat = (56 - 8 * (k : Int)).toNat := by omega
     generalize hbk : bl s ++ Zdw (bl s) k = bk at hpk e ⊢
     repeat (first
      | ((with_reducible apply Zdb (nid := 1)); rfl; rfl; rfl; exact (rfl : _ = some (Value.slice _ _ _, _)); exact (rfl : _ = _ :: _))
      | ((with_reducible apply Zbp); rfl; rfl; rfl; exact .inl ⟨_, rfl⟩; exact (rfl : _ = Value.slice (some ⟨_, _, _⟩) _ _); exact (rfl : _ = Value.slice (some ⟨_, _, _⟩) _ _); exact Zhj (n := bk.length) (k := 1) (n' := bk.length + 1) (ls := bk) (ms' := [Zqh (Zr5 (bl s)) k]) (rfl : _ = some (1, _, 1)) rfl (rfl : _ = some (1, _)) (by unfold Zqh; rw [← hsh]; rfl) rfl rfl rfl (by decide) (by omega); rfl; exact (rfl : _ = _ :: _))
      | ((with_reducible apply Zac); rfl; rfl; (first
      | exact (rfl : _ = Value.int _ _)
      | exact (rfl : _ = Value.slice _ _ _)))
      | ((with_reducible apply Z3); rfl; rfl; (first
      | exact (rfl : _ = Value.int _ _)
      | exact (rfl : _ = Value.slice _ _ _)))
      | ((with_reducible apply Zl); rfl; rfl; (exact (rfl : _ = Value.int _ _)); (exact (rfl : _ = Value.int _ _)); (first
      | with_reducible exact Zgm (by omega)
      | with_reducible exact Zc4 rfl (by omega) (by omega)
      | with_reducible exact Zlx rfl (by omega) (by omega)
      | with_reducible exact Zl8 (by omega)))
      | ((with_reducible apply Zc6); rfl; rfl; (exact (rfl : _ = Value.int _ _)); (exact Zfl rfl rfl (by first | exact Zet _ | rfl)))
      | with_reducible refine Za ?_
      | with_reducible refine Zg ?_
      | with_reducible refine Zf ?_
      | with_reducible refine Z1 ?_
      | with_reducible refine Z0 ?_
      | with_reducible refine Zc ?_
      | with_reducible refine Z4 ?_
      | ((with_reducible apply Zx); rfl))
     refine Zao ⟨k + 1, by omega, by omega, ?_⟩
     rw [← e, show (bk ++ [Zqh (Zr5 (bl s)) k]).length = bk.length + 1 from by simp]
     refine Z5 (n := 1) rfl ⟨.inr ⟨rfl, rfl⟩, .inl rfl, .inl rfl, .inr ⟨rfl, rfl⟩, .inr ⟨rfl, rfl⟩, .inr ⟨?_, rfl⟩, trivial⟩ rfl rfl
     show Value.int .i64 _ = Value.int .i64 _
     congr 1
     omega
    ·obtain rfl : k = 8 := by omega
     generalize bl s ++ Zdw (bl s) 8 = bk
     repeat (first
      | ((with_reducible apply Zac); rfl; rfl; (first
      | exact (rfl : _ = Value.int _ _)
      | exact (rfl : _ = Value.slice _ _ _)))
      | ((with_reducible apply Z3); rfl; rfl; (exact (rfl : _ = Value.slice _ _ _)))
      | ((with_reducible apply Zl); rfl; rfl; (exact (rfl : _ = Value.int _ _)); (exact (rfl : _ = Value.int _ _)); (with_reducible exact Zg1 (by omega)))
      | with_reducible refine Za ?_
      | with_reducible refine Zg ?_
      | with_reducible refine Zf ?_
      | with_reducible refine Zbb ?_
      | with_reducible refine Zq ?_
      | with_reducible refine Zc ?_
      | with_reducible refine Zaq ?_
      | with_reducible refine Zau ?_
      | ((with_reducible apply Zu); rfl)
      | ((with_reducible apply Zax); rfl))
     refine Zr ?_
     refine Zk (v := slv 0 0 bk.length bk.length) rfl rfl rfl rfl ?_
     exact ⟨rfl, Nat.zero_add _ ▸ rfl, rfl, Nat.le_refl _, Nat.le_refl _⟩
end Go.Flat
end
section
namespace Go.Flat
open Go.Proofs
variable {G : Glob}
theorem Zyu {P : Program} {H : List Blk} {t : TypeId} {b o n c : Nat} {k k' : IntKind} {l h sz j m c' : Nat} {e : TypeId} {i : TypeInfo} {x y : Int} (hu : P.underlying t = some (.slice e)) (hi : P.info? e = some i) (hz : i.size = sz) (hx : x = (l : Int)) (hy : y = (h : Int)) (hl : l ≤ h) (hh : h ≤ c) (ho : Zm4 H b i.size = true) (hj : o + l * sz = j) (hm : h - l = m) (hc' : c - l = c') :
  Zg9 P H t (slv b o n c) (some (.int k x)) (some (.int k' y)) = some (slv b j m c') := by
 subst hx; subst hy; subst hz; subst hm; subst hc'
 unfold Zg9
 rw [hu]
 simp only [Zd8, Zke, Option.bind_some]
 rw [if_pos ⟨by omega, by omega⟩]
 simp [hi, ho, hj, hl]
def Zpx (kk v : Nat → BitVec 32) (l : Bs) : Nat → Nat → BitVec 32
  | 0 => v
  | j + 1 => Z00 kk (Zpx kk v l j) (Zid l j)
def Z2f (kk : Nat → BitVec 32) (M : Bs) : Nat → BitVec 8 := Zlf (Zpx kk Zkq (M ++ Zdw M 8) ((M ++ Zdw M 8).length / 64)) 32
set_option maxHeartbeats 8000000 in
theorem Zo0 (kk : Nat → BitVec 32) (hG : G 2 = some (Zag w32 64 kk)) (s : ByteArray) (hs : s.size ≤ 70368744177664) :
  Z6 Tryz.prog G 67 [.string s] [] (dgV (Z2f kk (bl s))) [] := by
 refine Za8 (fn := Tryz.f67) (nt := 41) rfl rfl rfl rfl ?_
 have hM := Z7s (G := G) s hs
 have hL : (bl s ++ Zdw (bl s) 8).length ≤ 140737488355328 ∧ (bl s ++ Zdw (bl s) 8).length % 64 = 0 := by
  rw [List.length_append, Zht]
  unfold Zdw
  rw [Zna, Zqo, Zht]
  omega
 have hR : Z2f kk (bl s) = Zlf (Zpx kk Zkq (bl s ++ Zdw (bl s) 8) ((bl s ++ Zdw (bl s) 8).length / 64)) 32 := rfl
 generalize bl s ++ Zdw (bl s) 8 = m at hM hL hR
 obtain ⟨hL1, hL2⟩ := hL
 refine Zaa 4 (H' := [hole, hole, hole, hole]) rfl ?_
 repeat (first
  | ((with_reducible apply Za5); rfl; rfl; rfl; exact (show _ = some (Value.agg (Zag w32 8 Zkq).toArray) by kernel_rfl))
  | ((with_reducible apply Zay); rfl; exact (rfl : _ = Value.pointer (some ⟨1, _, _⟩)); exact (rfl : _ = Value.agg _); exact (show _ = some (1, vB Zkq) by kernel_rfl); exact (show _ = [dgB (fun _ => 0), vB Zkq, hole, hole] by kernel_rfl))
  | ((with_reducible apply Z2 (e := []) (nid := 2) hM); rfl; rfl; rfl; rfl; rfl; rfl; rfl; refine ⟨⟨rfl, trivial⟩, trivial, rfl, rfl, rfl⟩; exact (show _ = slv 2 0 m.length m.length by kernel_rfl); exact (show _ = [dgB (fun _ => 0), vB Zkq, Zah m, hole] by kernel_rfl))
  | ((with_reducible apply Zac); rfl; rfl; (exact (rfl : _ = Value.string _)))
  | ((with_reducible apply Z3); rfl; rfl; (first
  | exact (rfl : _ = Value.int _ _)
  | exact (rfl : _ = Value.slice _ _ _)))
  | ((with_reducible apply Zbs (nid := 0)); rfl; rfl; rfl; exact (rfl : _ = _ :: _))
  | ((with_reducible apply Zbs (nid := 1)); rfl; rfl; rfl; exact (rfl : _ = _ :: _))
  | with_reducible refine Za ?_
  | with_reducible refine Zg ?_
  | with_reducible refine Zf ?_
  | with_reducible refine Z1 ?_
  | with_reducible refine Zc ?_)
 refine Zbg (fun j : Nat => [dead, dead, pt 0 0, pt 1 0, slv 2 0 m.length m.length, Iv ((64 * j : Nat) : Int)]) (fun j : Nat => [dgB (fun _ => 0), vB (Zpx kk Zkq m j), Zah m]) (fun j => 64 * j ≤ m.length) (fun j => m.length - 64 * j) 0 (by omega) ?_ ?_
 ·refine Z5 (n := 3) rfl ?_ rfl rfl
  repeat (first | exact trivial | refine ⟨.inl rfl, ?_⟩ | refine ⟨.inr ⟨rfl, rfl⟩, ?_⟩)
 ·intro j hj
  by_cases hlt : 64 * j < m.length
  ·have ht := Z4x (l := m) (j := j) (by omega)
   have hB := Z2p (G := G) kk hG (Zpx kk Zkq m j) (Zid m j) (m.length - 64 * j) (by omega)
   have hst : Z00 kk (Zpx kk Zkq m j) (Zid m j) = Zpx kk Zkq m (j + 1) := rfl
   rw [hst] at hB
   generalize hst2 : Zpx kk Zkq m (j + 1) = v2 at hB hst
   generalize hv : Zpx kk Zkq m j = v1 at hB
   repeat (first
    | ((with_reducible apply Zc7); rfl; rfl; exact (rfl : _ = Value.slice (some ⟨_, _, _⟩) _ _); rfl; rfl; exact Zyu (l := 64 * j) (h := 64 * j + 64) (sz := 1) (j := 64 * j) (m := 64) (c' := m.length - 64 * j) rfl rfl rfl rfl (by omega) (by omega) (by omega) rfl (by omega) (by omega) rfl)
    | ((with_reducible apply Zad); rfl; rfl; exact (rfl : _ = Value.pointer (some ⟨1, _, _⟩)); exact (show _ = some (Value.agg (Zag w32 8 v1).toArray) by kernel_rfl))
    | ((with_reducible apply Z2 (e := [some (2, 64 * j)]) (nid := 0) hB); rfl; rfl; rfl; rfl; rfl; rfl; rfl; refine ⟨⟨rfl, ⟨rfl, rfl, rfl, Nat.le_refl _, by omega⟩, trivial⟩, ⟨Zeb rfl rfl (by show 64 * j + (Zag w8 64 _).length ≤ (m.map w8).length; rw [Zcf]; simp; omega) ht, trivial⟩, rfl, rfl, rfl⟩; exact (rfl : _ = Value.agg _); exact (rfl : _ = _ :: _))
    | ((with_reducible apply Zay); rfl; exact (rfl : _ = Value.pointer (some ⟨1, _, _⟩)); exact (rfl : _ = Value.agg _); exact (show _ = some (1, vB v2) by kernel_rfl); exact (show _ = [dgB (fun _ => 0), vB v2, Zah m] by kernel_rfl))
    | ((with_reducible apply Zac); rfl; rfl; (first
    | exact (rfl : _ = Value.int _ _)
    | exact (rfl : _ = Value.slice _ _ _)))
    | ((with_reducible apply Z3); rfl; rfl; (exact (rfl : _ = Value.int _ _)))
    | ((with_reducible apply Zl); rfl; rfl; (exact (rfl : _ = Value.int _ _)); (exact (rfl : _ = Value.int _ _)); (first
    | with_reducible exact Zcc (by omega)
    | with_reducible exact Za3 rfl (by omega) (by omega)))
    | ((with_reducible apply Zdm); rfl; rfl; (exact (rfl : _ = Value.slice _ _ _)); (exact (rfl : _ = some (Value.int _ _))))
    | with_reducible refine Za ?_
    | with_reducible refine Zg ?_
    | with_reducible refine Zf ?_
    | with_reducible refine Z1 ?_
    | with_reducible refine Z0 ?_
    | with_reducible refine Zc ?_
    | with_reducible refine Z4 ?_
    | (with_reducible refine Zb3 (by kernel_rfl) ?_)
    | (with_reducible refine Zc1 (by kernel_rfl) ?_)
    | ((with_reducible apply Zx); rfl))
   refine Zao ⟨j + 1, by omega, by omega, ?_⟩
   rw [← hst2]
   refine Z5 (n := 3) rfl ⟨.inl rfl, .inl rfl, .inr ⟨rfl, rfl⟩, .inr ⟨rfl, rfl⟩, .inr ⟨rfl, rfl⟩, .inr ⟨?_, rfl⟩, trivial⟩ rfl rfl
   show Value.int .i64 _ = Value.int .i64 _
   congr 1
  ·have hjn : j = m.length / 64 := by omega
   subst hjn
   rw [hR]
   generalize Zpx kk Zkq m (m.length / 64) = V
   repeat (first
    | ((with_reducible apply Zac); rfl; rfl; (first
    | exact (rfl : _ = Value.int _ _)
    | exact (rfl : _ = Value.slice _ _ _)))
    | ((with_reducible apply Z3); rfl; rfl; (exact (rfl : _ = Value.int _ _)))
    | ((with_reducible apply Zl); rfl; rfl; (exact (rfl : _ = Value.int _ _)); (exact (rfl : _ = Value.int _ _)); (with_reducible exact Zb5 (by omega)))
    | ((with_reducible apply Zdm); rfl; rfl; (exact (rfl : _ = Value.slice _ _ _)); (exact (rfl : _ = some (Value.int _ _))))
    | ((with_reducible apply Zbs (nid := 3)); rfl; rfl; rfl; exact (rfl : _ = _ :: _))
    | with_reducible refine Za ?_
    | with_reducible refine Zg ?_
    | with_reducible refine Zf ?_
    | with_reducible refine Z1 ?_
    | with_reducible refine Zbb ?_
    | with_reducible refine Zc ?_
    | with_reducible refine Zaq ?_
    | with_reducible refine Zau ?_
    | ((with_reducible apply Zu); rfl)
    | ((with_reducible apply Zax); rfl))
   refine Zbg (fun x : Nat => [dead, dead, pt 0 0, pt 1 0, dead, dead, pt 3 0, Iv (x : Nat)]) (fun x : Nat => [dgB (fun _ => 0), vB V, Zah m, dgB (Zlf V x)]) (fun x => x ≤ 32) (fun x => 32 - x) 0 (by omega) ?_ ?_
   ·refine Z5 (n := 4) rfl ?_ (by kernel_rfl) rfl
    repeat (first | exact trivial | refine ⟨.inl rfl, ?_⟩ | refine ⟨.inr ⟨rfl, rfl⟩, ?_⟩)
   ·intro x hx
    by_cases hl : x < 32
    ·have hsh : (24 - 8 * ((x : Int) % 4)).toNat = (24 - (x : Int) % 4 * 8).toNat := by omega
     have e : Zlf V (x + 1) = Zfg (Zlf V x) x ((V (x / 4) >>> (24 - 8 * ((x : Int) % 4)).toNat).setWidth 8) := by
      rw [hsh]; rfl
     generalize hd : Zlf V x = dd at e
     repeat (first
      | ((with_reducible apply Zbw (j := x / 4)); rfl; rfl; exact (rfl : _ = Value.pointer (some ⟨_, _, _⟩)); (exact (rfl : _ = Value.int _ _)); (exact (rfl : _ = some (_, 1))); omega; omega; omega)
      | ((with_reducible apply Zbw (j := x)); rfl; rfl; exact (rfl : _ = Value.pointer (some ⟨_, _, _⟩)); (exact (rfl : _ = Value.int _ _)); (exact (rfl : _ = some (_, 1))); omega; omega; omega)
      | ((with_reducible apply Zac); rfl; rfl; (exact (rfl : _ = Value.int _ _)))
      | ((with_reducible apply Z3); rfl; rfl; (exact (rfl : _ = Value.int _ _)))
      | ((with_reducible apply Zl); rfl; rfl; (exact (rfl : _ = Value.int _ _)); (exact (rfl : _ = Value.int _ _)); (first
      | with_reducible exact Zcc (by omega)
      | with_reducible exact Za3 rfl (by omega) (by omega)
      | with_reducible exact Zc4 rfl (by omega) (by omega)
      | with_reducible exact Zlx rfl (by omega) (by omega)
      | with_reducible exact Zsf (by omega)
      | with_reducible exact Zs1 (by omega) (by omega) (by omega)
      | with_reducible exact Zq0 (by omega) (by omega)))
      | ((with_reducible apply Zc6); rfl; rfl; (exact (rfl : _ = Value.int _ _)); (exact Zfl rfl rfl (by first | exact Zet _ | rfl)))
      | ((with_reducible apply Zad); rfl; rfl; exact (rfl : _ = Value.pointer (some ⟨_, _, _⟩)); (exact Zee rfl rfl rfl (by omega) (fun _ => rfl)))
      | ((with_reducible apply Zay); rfl; exact (rfl : _ = Value.pointer (some ⟨_, _, _⟩)); (exact (rfl : _ = Value.int _ _)); (exact Zfb rfl rfl rfl rfl rfl (by omega) rfl rfl); exact (rfl : _ = _ :: _))
      | with_reducible refine Za ?_
      | with_reducible refine Zg ?_
      | with_reducible refine Zf ?_
      | with_reducible refine Z1 ?_
      | with_reducible refine Z0 ?_
      | with_reducible refine Zc ?_
      | with_reducible refine Z4 ?_
      | ((with_reducible apply Zx); rfl))
     refine Zao ⟨x + 1, by omega, by omega, ?_⟩
     rw [e]
     refine Z5 (n := 4) rfl ?_ rfl rfl
     repeat (first | exact trivial | refine ⟨.inl rfl, ?_⟩ | refine ⟨.inr ⟨rfl, rfl⟩, ?_⟩)
    ·obtain rfl : x = 32 := by omega
     generalize Zlf V 32 = dd
     repeat (first
      | ((with_reducible apply Zac); rfl; rfl; (exact (rfl : _ = Value.int _ _)))
      | ((with_reducible apply Zl); rfl; rfl; (exact (rfl : _ = Value.int _ _)); (exact (rfl : _ = Value.int _ _)); (with_reducible exact Zb5 (by omega)))
      | ((with_reducible apply Zad); rfl; rfl; exact (rfl : _ = Value.pointer (some ⟨_, _, _⟩)); (exact (rfl : _ = some (Value.agg _))))
      | ((with_reducible apply Zay); rfl; exact (rfl : _ = Value.pointer (some ⟨_, _, _⟩)); (exact (rfl : _ = Value.agg _)); (rfl); exact (rfl : _ = _ :: _))
      | with_reducible refine Za ?_
      | with_reducible refine Zg ?_
      | with_reducible refine Zf ?_
      | with_reducible refine Zbb ?_
      | with_reducible refine Zq ?_
      | with_reducible refine Zc ?_
      | with_reducible refine Zaq ?_
      | with_reducible refine Zau ?_
      | ((with_reducible apply Zu); rfl)
      | ((with_reducible apply Zax); rfl))
     refine Zr ?_
     exact Zd0 (v := dgV dd) rfl (Zbu fun _ => rfl) rfl
end Go.Flat
end
section
namespace Go.Flat
open Go.Proofs
variable {G : Glob}
theorem Zhc {P : Program} {t : TypeId} {x y : Operand} {a b : ByteArray} (h : a.size + b.size ≤ 140737488351232) : Zcl P .add t x y (.string a) (.string b) = some (.string (a ++ b)) := by
 unfold Zcl
 rw [if_pos (show (Zb7 (.string a) && Zb7 (.string b)) = true from rfl)]
 have hg : Zae P (eqGuard .add t x y (.string a) (.string b)) = some () := rfl
 rw [Zak, hg, Option.bind_some]
 have e : binOp .add t (.string a) (.string b) = Op.stringOp .add a b := rfl
 rw [e]
 unfold Op.stringOp
 dsimp only
 rw [if_neg (by show ¬ (((a.size + b.size : Nat) : Int) > 9223372036854775807); omega)]
 rfl
theorem Zlz (a b : ByteArray) : bl (a ++ b) = bl a ++ bl b := by
 unfold bl
 simp
theorem Zij (d : Nat → BitVec 8) : Z6 Tryz.prog G 96 [dgV d] [] (.string (Zm (dgL d))) [] := by
 refine Za8 (fn := Tryz.f96) (nt := 5) rfl rfl rfl rfl ?_
 refine Zaa 1 (H' := [hole]) rfl ?_
 repeat (first
  | ((with_reducible apply Ze2); rfl; rfl; exact (rfl : _ = Value.slice (some ⟨_, _, _⟩) _ _); exact Zem (l := dgL d) rfl rfl rfl rfl (by show 0 + 32 ≤ 32; decide) rfl)
  | ((with_reducible apply Z3); rfl; rfl; (exact (rfl : _ = Value.string _)))
  | ((with_reducible apply Zc7); rfl; rfl; (exact (rfl : _ = Value.pointer (some _))); rfl; rfl; (exact (rfl : _ = some (Value.slice (some ⟨_, _, _⟩) _ _))))
  | ((with_reducible apply Zk4 (nid := 0)); rfl; rfl; (exact (rfl : _ = Value.agg _)); rfl; exact (rfl : _ = _ :: _))
  | with_reducible refine Za ?_
  | with_reducible refine Zg ?_
  | with_reducible refine Zf ?_
  | with_reducible refine Zq ?_
  | with_reducible refine Zc ?_)
 refine Zr ?_
 exact Zd0 (v := .string _) rfl rfl rfl
def Zzi (kk : Nat → BitVec 32) (a b : Nat → BitVec 8) : Nat → BitVec 8 := Z2f kk (Zch [Zl5, Zm (dgL a), Zm (dgL b)])
theorem Zyx (kk : Nat → BitVec 32) (hG : G 2 = some (Zag w32 64 kk)) (a b : Nat → BitVec 8) : Z6 Tryz.prog G 69 [dgV a, dgV b] [] (dgV (Zzi kk a b)) [] := by
 refine Za8 (fn := Tryz.f69) (nt := 12) rfl rfl rfl rfl ?_
 have h32 : ∀ d : Nat → BitVec 8, (Zm (dgL d)).size = 32 := fun d => by rw [Za1, Zfc]
 have h1 : Zl5.size = 1 := rfl
 have hb : bl (Zl5 ++ Zm (dgL a) ++ Zm (dgL b)) = Zch [Zl5, Zm (dgL a), Zm (dgL b)] := by
  rw [Zlz, Zlz]; simp [Zch]
 have hS := Zo0 (G := G) kk hG (Zl5 ++ Zm (dgL a) ++ Zm (dgL b)) (by rw [ByteArray.size_append, ByteArray.size_append, h32, h32, h1]; omega)
 rw [hb] at hS
 change Z6 Tryz.prog G 67 _ [] (dgV (Zzi kk a b)) [] at hS
 generalize Zzi kk a b = k at *
 have c1 : Zl5.size + (Zm (dgL a)).size ≤ 140737488351232 := by rw [h32, h1]; omega
 have c2 : (Zl5 ++ Zm (dgL a)).size + (Zm (dgL b)).size ≤ 140737488351232 := by rw [ByteArray.size_append, h32, h32, h1]; omega
 have hT := Zij (G := G) a
 have hT2 := Zij (G := G) b
 generalize Zm (dgL a) = sa at *
 generalize Zm (dgL b) = sb at *
 refine Zaa 3 (H' := [hole, hole, hole]) rfl ?_
 repeat (first
  | ((with_reducible apply Zad); rfl; rfl; exact (rfl : _ = Value.pointer (some ⟨0, _, _⟩)); exact (show _ = some (dgV a) by kernel_rfl))
  | ((with_reducible apply Zad); rfl; rfl; exact (rfl : _ = Value.pointer (some ⟨1, _, _⟩)); exact (show _ = some (dgV b) by kernel_rfl))
  | ((with_reducible apply Zl); rfl; rfl; exact (rfl : _ = Value.string _); exact (rfl : _ = Value.string _); first | exact Zhc c1 | exact Zhc c2)
  | ((with_reducible apply Zay); rfl; exact (rfl : _ = Value.pointer (some ⟨_, _, _⟩)); (exact (rfl : _ = Value.agg _)); (rfl); exact (rfl : _ = _ :: _))
  | ((with_reducible apply Zk4 (nid := 0)); rfl; rfl; (exact (rfl : _ = Value.agg _)); rfl; exact (rfl : _ = _ :: _))
  | ((with_reducible apply Zk4 (nid := 1)); rfl; rfl; (exact (rfl : _ = Value.agg _)); rfl; exact (rfl : _ = _ :: _))
  | ((with_reducible apply Zbs (nid := 2)); rfl; rfl; rfl; exact (rfl : _ = _ :: _))
  | ((with_reducible apply Zo (hT)); rfl; rfl; rfl; rfl; rfl; (exact (rfl : _ = Value.string _)))
  | ((with_reducible apply Zo (hT2)); rfl; rfl; rfl; rfl; rfl; (exact (rfl : _ = Value.string _)))
  | ((with_reducible apply Zo (hS)); rfl; rfl; rfl; rfl; rfl; (exact (rfl : _ = Value.agg _)))
  | with_reducible refine Za ?_
  | with_reducible refine Zg ?_
  | with_reducible refine Zf ?_
  | with_reducible refine Zq ?_
  | with_reducible refine Zc ?_
  | (with_reducible refine Zb3 (by kernel_rfl) ?_)
  | (with_reducible refine Zc1 (by kernel_rfl) ?_))
 refine Zr ?_
 exact Zd0 (v := dgV k) (by kernel_rfl) (Zbu fun _ => rfl) rfl
end Go.Flat
end
section
namespace Go.Flat

theorem Zf7 (x : BitVec 32) {n : Nat} (h0 : 0 < n) (h1 : n < 32) {z : Int} (hz : z = -(n : Int)) : rot x (z % 32).toNat = Zhv x n := by
 subst hz
 have e : ((-(n : Int)) % 32).toNat = 32 - n := by omega
 unfold rot Zhv
 rw [e, show 32 - (32 - n) = n from by omega, BitVec.or_comm]
theorem chF (x y z : BitVec 32) : z ^^^ (x &&& (y ^^^ z)) = (x &&& y) ^^^ (~~~x &&& z) := by
 apply BitVec.eq_of_getLsbD_eq
 intro i hi
 simp only [BitVec.getLsbD_xor, BitVec.getLsbD_and, BitVec.getLsbD_not, hi, decide_true, Bool.true_and]
 cases x.getLsbD i <;> cases y.getLsbD i <;> cases z.getLsbD i <;> rfl
theorem byteF (x : BitVec 32) (y : BitVec 8) : x <<< 8 ||| y.setWidth 32 = x * BitVec.ofInt 32 256 + y.setWidth 32 := by
 apply BitVec.eq_of_toNat_eq
 rw [BitVec.toNat_or, BitVec.toNat_shiftLeft, BitVec.toNat_setWidth, BitVec.toNat_add, BitVec.toNat_mul, BitVec.toNat_setWidth]
 have hy := y.isLt
 have hx := x.isLt
 have h256 : (BitVec.ofInt 32 256).toNat = 256 := rfl
 rw [h256, Nat.mod_eq_of_lt (show y.toNat < 2 ^ 32 by omega)]
 have e : x.toNat <<< 8 % 2 ^ 32 = (x.toNat % 2 ^ 24) <<< 8 := by
  rw [Nat.shiftLeft_eq, Nat.shiftLeft_eq]; omega
 rw [e, ← Nat.shiftLeft_add_eq_or_of_lt (by omega : y.toNat < 2 ^ 8), Nat.shiftLeft_eq]
 omega
theorem Z0q (b : Nat → BitVec 8) : ∀ k, Zj4 b k = inR b k
 | 0 => rfl
 | k + 1 => by
  simp only [Zj4, inR, inB]
  rw [Z0q b k, byteF]
def wF (b : Nat → BitVec 8) (i : Nat) : BitVec 32 := Zjq b (i - 15) i
theorem Zjx (b : Nat → BitVec 8) : ∀ k i, i < 16 + k → Zjq b k i = wF b i
 | 0, i, h => by unfold wF; rw [show i - 15 = 0 from by omega]
 | k + 1, i, h => by
  by_cases he : i = 16 + k
  ·subst he; unfold wF; rw [show 16 + k - 15 = k + 1 from by omega]
  ·have := Zjx b k i (by omega)
   rw [← this]
   simp only [Zjq, Zfg, he, if_false]
theorem Z57 (b : Nat → BitVec 8) (t : Nat) : wF b (t + 16) = Zyo (wF b) (t + 16) := by
 have e : wF b (t + 16) = Zyo (Zjq b t) (16 + t) := by
  unfold wF
  rw [show t + 16 - 15 = t + 1 from by omega]
  simp only [Zjq, Zfg]
  rw [if_pos (by omega)]
 rw [e, Nat.add_comm 16 t]
 unfold Zyo
 rw [Zjx b t _ (by omega), Zjx b t _ (by omega), Zjx b t _ (by omega), Zjx b t _ (by omega)]
theorem roll (kk v : Nat → BitVec 32) (b : Nat → BitVec 8) : ∀ t j, j < 16 → (Zn7 kk v (Zj4 b 64) t).2 ((t + j) % 16) = wF b (t + j)
 | 0, j, h => by
  rw [Nat.zero_add, Nat.mod_eq_of_lt h]
  show Zj4 b 64 j = _
  rw [Z0q]
  exact Zjx b 0 j (by omega)
 | t + 1, j, h => by
  have ih := roll kk v b t
  simp only [Zn7]
  generalize (Zn7 kk v (Zj4 b 64) t).2 = w at ih ⊢
  unfold Z68 Zfg
  by_cases he : (t + 1 + j) % 16 = t % 16
  ·rw [if_pos he]
   have hj : j = 15 := by omega
   subst hj
   have h0 := ih 0 (by omega)
   have h1 := ih 1 (by omega)
   have h9 := ih 9 (by omega)
   have h14 := ih 14 (by omega)
   rw [Nat.add_zero] at h0
   rw [show t + 1 + 15 = t + 16 from by omega, Z57]
   unfold Zyo Zla
   rw [h0, h1, h9, h14, Zf7 _ (n := 7) (by omega) (by omega) (by omega), Zf7 _ (n := 18) (by omega) (by omega) (by omega), Zf7 _ (n := 17) (by omega) (by omega) (by omega), Zf7 _ (n := 19) (by omega) (by omega) (by omega)]
   rw [show t + 16 - 16 = t from by omega, show t + 16 - 7 = t + 9 from by omega, show t + 16 - 15 = t + 1 from by omega, show t + 16 - 2 = t + 14 from by omega]
   simp only [BitVec.add_assoc]
  ·rw [if_neg he, show t + 1 + j = t + (j + 1) from by omega]
   exact ih (j + 1) (by omega)
theorem Z0l (kk v : Nat → BitVec 32) (b : Nat → BitVec 8) : ∀ t, t ≤ 64 → (Zn7 kk v (Zj4 b 64) t).1 = Zmx kk v (Zjq b 48) t
 | 0, _ => rfl
 | t + 1, h => by
  have ih := Z0l kk v b t (by omega)
  have hr := roll kk v b t 0 (by omega)
  rw [Nat.add_zero] at hr
  simp only [Zn7, Zmx]
  rw [ih]
  generalize Zmx kk v (Zjq b 48) t = V
  have hp : Z39 (kk t) V (Zn7 kk v (Zj4 b 64) t).2 t = Z1q (kk t) V (Zjq b 48) t := by
   unfold Z39 Z1q Zla
   rw [hr, Zjx b 48 t (by omega), chF, Zf7 _ (n := 6) (by omega) (by omega) (by omega), Zf7 _ (n := 11) (by omega) (by omega) (by omega), Zf7 _ (n := 25) (by omega) (by omega) (by omega)]
  have hq : Z3a V = Z1u V := by
   unfold Z3a Z1u Zla
   rw [Zf7 _ (n := 2) (by omega) (by omega) (by omega), Zf7 _ (n := 13) (by omega) (by omega) (by omega), Zf7 _ (n := 22) (by omega) (by omega) (by omega)]
  rw [hp, hq]
theorem Z6x (kk v : Nat → BitVec 32) (b : Nat → BitVec 8) : Z00 kk v b = Z4p kk v b := by
 unfold Z00 Z4p
 rw [Z0l kk v b 64 (Nat.le_refl _)]
theorem Zz2 (kk v : Nat → BitVec 32) (l : Bs) : ∀ j, Zpx kk v l j = Zmf kk v l j
 | 0 => rfl
 | j + 1 => by
  simp only [Zpx, Zmf]
  rw [Zz2 kk v l j, Z6x]
theorem Zuf (kk : Nat → BitVec 32) (M : Bs) : Z2f kk M = Zcq kk M := by
 unfold Z2f Zcq Zon
 rw [Zz2]
theorem Z37 (kk : Nat → BitVec 32) (a b : Nat → BitVec 8) : Zzi kk a b = Zgr kk a b := Zuf kk _
end Go.Flat
end
section
namespace Go.Flat
open Go.Proofs
variable {G : Glob}
set_option maxHeartbeats 4000000 in
theorem Zpd (n : Int) (h : n ≤ 9223372036854775807) (hl : -9223372036854775808 ≤ n) : Z6 Tryz.prog G 68 [Iv n] [] (Iv (Zdh n)) [] := by
 refine Za8 (fn := Tryz.f68) (nt := 14) rfl rfl rfl rfl ?_
 by_cases h2 : n < 2
 ·rw [show Zdh n = 0 from by unfold Zdh; rw [if_pos h2]]
  repeat (first
   | ((with_reducible apply Zac); rfl; rfl; (exact (rfl : _ = Value.int _ _)))
   | ((with_reducible apply Z3); rfl; rfl; (exact (rfl : _ = Value.int _ _)))
   | ((with_reducible apply Zl); rfl; rfl; (exact (rfl : _ = Value.int _ _)); (exact (rfl : _ = Value.int _ _)); (with_reducible exact Zcc (by omega)))
   | with_reducible refine Za ?_
   | with_reducible refine Zg ?_
   | with_reducible refine Zf ?_
   | with_reducible refine Zq ?_
   | with_reducible refine Zc ?_
   | with_reducible refine Zz ?_
   | ((with_reducible apply Zx); rfl))
  refine Zr ?_
  exact Zd0 (v := Iv 0) rfl rfl rfl
 ·obtain ⟨n, rfl⟩ : ∃ m : Nat, n = m := ⟨n.toNat, by omega⟩
  repeat (first
   | ((with_reducible apply Zac); rfl; rfl; (exact (rfl : _ = Value.int _ _)))
   | ((with_reducible apply Z3); rfl; rfl; (exact (rfl : _ = Value.int _ _)))
   | ((with_reducible apply Zl); rfl; rfl; (exact (rfl : _ = Value.int _ _)); (exact (rfl : _ = Value.int _ _)); (with_reducible exact Zb5 (by omega)))
   | with_reducible refine Za ?_
   | with_reducible refine Zg ?_
   | with_reducible refine Zf ?_
   | with_reducible refine Z1 ?_
   | with_reducible refine Z0 ?_
   | with_reducible refine Zc ?_
   | ((with_reducible apply Zu); rfl))
  refine Zbg (fun j : Nat => [Iv (n : Nat), dead, dead, Iv ((2 ^ j : Nat) : Int)]) (fun _ => []) (fun j => 2 ^ j < n) (fun j => n - 2 ^ j) 0 (show 1 < n by omega) ?_ ?_
  ·refine Z5 (n := 0) rfl ?_ rfl rfl
   repeat (first | exact trivial | refine ⟨.inl rfl, ?_⟩ | refine ⟨.inr ⟨rfl, rfl⟩, ?_⟩)
  ·intro j hj
   have hp1 : 2 ^ (j + 1) = 2 * 2 ^ j := by rw [Nat.pow_succ]; omega
   have hp0 : 1 ≤ 2 ^ j := Nat.pow_pos (by decide)
   by_cases hlt : 2 ^ j + 2 ^ j < n
   ·generalize hq : 2 ^ j = q at *
    repeat (first
     | ((with_reducible apply Zac); rfl; rfl; (exact (rfl : _ = Value.int _ _)))
     | ((with_reducible apply Z3); rfl; rfl; (exact (rfl : _ = Value.int _ _)))
     | ((with_reducible apply Zl); rfl; rfl; (exact (rfl : _ = Value.int _ _)); (exact (rfl : _ = Value.int _ _)); (first
     | with_reducible exact Zcc (by omega)
     | with_reducible exact Zc4 rfl (by omega) (by omega)
     | with_reducible exact Zlx rfl (by omega) (by omega)))
     | with_reducible refine Za ?_
     | with_reducible refine Zg ?_
     | with_reducible refine Zf ?_
     | with_reducible refine Z1 ?_
     | with_reducible refine Z0 ?_
     | with_reducible refine Zc ?_
     | with_reducible refine Z4 ?_
     | ((with_reducible apply Zx); rfl))
    refine Zao ⟨j + 1, by omega, by omega, ?_⟩
    rw [hp1]
    refine Z5 (n := 0) rfl ⟨.inr ⟨rfl, rfl⟩, .inl rfl, .inl rfl, .inr ⟨?_, rfl⟩, trivial⟩ rfl rfl
    rfl
   ·have e : Zdh (n : Int) = ((2 ^ j : Nat) : Int) := by
     obtain ⟨s1, s2, s3⟩ := Zd7 (n := n) (by omega)
     rw [s3]
     have := Zo2 (n := n) (j := j) hj (by omega)
     unfold Zaz at this
     rw [this]
    rw [e]
    generalize hq : 2 ^ j = q at *
    repeat (first
     | ((with_reducible apply Zac); rfl; rfl; (exact (rfl : _ = Value.int _ _)))
     | ((with_reducible apply Z3); rfl; rfl; (exact (rfl : _ = Value.int _ _)))
     | ((with_reducible apply Zl); rfl; rfl; (exact (rfl : _ = Value.int _ _)); (exact (rfl : _ = Value.int _ _)); (first
     | with_reducible exact Zb5 (by omega)
     | with_reducible exact Zc4 rfl (by omega) (by omega)))
     | with_reducible refine Za ?_
     | with_reducible refine Zg ?_
     | with_reducible refine Zf ?_
     | with_reducible refine Zbb ?_
     | with_reducible refine Zq ?_
     | with_reducible refine Zc ?_
     | with_reducible refine Zaq ?_
     | with_reducible refine Zau ?_
     | ((with_reducible apply Zu); rfl)
     | ((with_reducible apply Zax); rfl))
    refine Zr ?_
    exact Zd0 (v := Iv (q : Nat)) rfl rfl rfl
set_option maxHeartbeats 8000000 in
theorem Zmp (kk : Nat → BitVec 32) (hG : G 2 = some (Zag w32 64 kk)) : ∀ (n : Nat) (ds : List D) (c : Nat), ds.length = n → n ≤ 1000000 → n ≤ c → Z6 Tryz.prog G 39 [slv 0 0 n c] [dsR ds] (dgV (Zby kk ds)) [dsR ds] := by
  intro n
  induction n using Nat.strongRecOn with
  | ind n ih =>
    intro ds c hn hb hc
    refine Za8 (fn := Tryz.f39) (nt := 26) rfl rfl rfl rfl ?_
    refine Zaa 1 (H' := [dsR ds, hole]) rfl ?_
    by_cases h0 : n = 0
    · have hS := Zo0 (G := G) kk hG ⟨#[]⟩ (by show 0 ≤ _; decide)
      have hr : Z2f kk (bl ⟨#[]⟩) = Zby kk ds := by
        rw [Zuf, Zby, if_pos (by omega)]; rfl
      rw [hr] at hS
      generalize Zby kk ds = x at *
      repeat (first
        | ((with_reducible apply Zac); rfl; rfl; (exact (rfl : _ = Value.slice _ _ _)))
        | ((with_reducible apply Zl); rfl; rfl; (exact (rfl : _ = Value.int _ _)); (exact (rfl : _ = Value.int _ _)); (with_reducible exact Zdn (by omega)))
        | ((with_reducible apply Zdm); rfl; rfl; (exact (rfl : _ = Value.slice _ _ _)); (exact (rfl : _ = some (Value.int _ _))))
        | ((with_reducible apply Zay); rfl; exact (rfl : _ = Value.pointer (some ⟨_, _, _⟩)); (exact (rfl : _ = Value.agg _)); (rfl); exact (rfl : _ = _ :: _))
        | ((with_reducible apply Zbs (nid := 1)); rfl; rfl; rfl; exact (rfl : _ = _ :: _))
        | ((with_reducible apply Zo (hS)); rfl; rfl; rfl; rfl; rfl; (exact (rfl : _ = Value.agg _)))
        | with_reducible refine Za ?_
        | with_reducible refine Zg ?_
        | with_reducible refine Zf ?_
        | with_reducible refine Zq ?_
        | with_reducible refine Zc ?_
        | with_reducible refine Zz ?_
        | ((with_reducible apply Zx); rfl))
      refine Zr ?_
      refine Zk (v := dgV x) (by kernel_rfl) rfl rfl (Zgn ds) (Zbm (Zbu fun _ => rfl) rfl)
    by_cases h1 : n = 1
    · obtain ⟨d, rfl⟩ : ∃ d, ds = [d] := by
        cases ds with
        | nil => simp at hn; omega
        | cons d t => cases t with
          | nil => exact ⟨d, rfl⟩
          | cons d2 t => simp at hn; omega
      rw [root1]
      repeat (first
        | ((with_reducible apply Zad); rfl; rfl; exact (rfl : _ = Value.pointer (some ⟨0, _, _⟩)); exact Zcy (n := 32) rfl rfl (by show 0 * 32 + 32 ≤ (dsC [d]).length; rw [Zb8]; simp) (Zga [d] 0 (by simp)))
        | ((with_reducible apply Zbe (j := 0 * 32)); rfl; rfl; exact (rfl : _ = Value.slice (some ⟨_, _, _⟩) _ _); (exact (rfl : _ = Value.int _ _)); (exact (rfl : _ = some (_, 32))); omega; omega; omega)
        | ((with_reducible apply Zac); rfl; rfl; (exact (rfl : _ = Value.slice _ _ _)))
        | ((with_reducible apply Zl); rfl; rfl; (exact (rfl : _ = Value.int _ _)); (exact (rfl : _ = Value.int _ _)); (first
        | with_reducible exact Zdn (by omega)
        | with_reducible exact Zer (by omega)))
        | ((with_reducible apply Zdm); rfl; rfl; (exact (rfl : _ = Value.slice _ _ _)); (exact (rfl : _ = some (Value.int _ _))))
        | ((with_reducible apply Zay); rfl; exact (rfl : _ = Value.pointer (some ⟨_, _, _⟩)); (exact (rfl : _ = Value.agg _)); (rfl); exact (rfl : _ = _ :: _))
        | ((with_reducible apply Zbs (nid := 1)); rfl; rfl; rfl; exact (rfl : _ = _ :: _))
        | with_reducible refine Za ?_
        | with_reducible refine Zg ?_
        | with_reducible refine Zf ?_
        | with_reducible refine Z0 ?_
        | with_reducible refine Zq ?_
        | with_reducible refine Zc ?_
        | with_reducible refine Zz ?_
        | ((with_reducible apply Zx); rfl)
        | ((with_reducible apply Zu); rfl))
      refine Zr ?_
      refine Zk (v := dgV d) (by kernel_rfl) rfl rfl (Zgn [d]) (Zbm (Zbu fun _ => rfl) rfl)
    · obtain ⟨s1, s2, s3⟩ := Zd7 (n := n) (by omega)
      have hS := Zpd (G := G) (n : Int) (by omega) (by omega)
      rw [s3] at hS
      have hkk : Zaz n = (Zdh (n : Int)).toNat := rfl
      have hx := Zs5 kk (ds := ds) (by omega)
      rw [hn, hkk] at hx
      generalize (Zdh (n : Int)).toNat = k at *
      have e1 : ds.take k = sub ds 0 k := by simp [sub]
      have e2 : ds.drop k = sub ds k (n - k) := by unfold sub; rw [List.take_of_length_le (by simp; omega)]
      rw [e1, e2] at hx
      have hRa := ih k (by omega) (sub ds 0 k) c (Zcr (by omega)) (by omega) (by omega)
      have hRb := ih (n - k) (by omega) (sub ds k (n - k)) (c - k) (Zcr (by omega)) (by omega) (by omega)
      have hK := Zyx (G := G) kk hG (Zby kk (sub ds 0 k)) (Zby kk (sub ds k (n - k)))
      rw [Z37, ← hx] at hK
      generalize Zby kk (sub ds 0 k) = a at *
      generalize Zby kk (sub ds k (n - k)) = b at *
      generalize Zby kk ds = x at *
      repeat (first
        | ((with_reducible apply Z2 (e := [some (0, 0)]) (nid := 0) hRa); rfl; rfl; rfl; rfl; rfl; rfl; rfl; refine ⟨⟨⟨rfl, rfl, by omega, by omega, by omega⟩, trivial⟩, ⟨Zgx rfl (.inl rfl) (by omega) rfl, trivial⟩, rfl, rfl, rfl⟩; exact (rfl : _ = Value.agg _); exact (rfl : _ = _ :: _))
        | ((with_reducible apply Z2 (e := [some (0, k * 32)]) (nid := 0) hRb); rfl; rfl; rfl; rfl; rfl; rfl; rfl; refine ⟨⟨⟨rfl, rfl, by omega, by omega, by omega⟩, trivial⟩, ⟨Zgx rfl (.inl rfl) (by omega) rfl, trivial⟩, rfl, rfl, rfl⟩; exact (rfl : _ = Value.agg _); exact (rfl : _ = _ :: _))
        | ((with_reducible apply Zc7); rfl; rfl; exact (rfl : _ = Value.slice (some ⟨_, _, _⟩) _ _); rfl; rfl; first | exact Zfv (h := k) rfl rfl rfl (by omega) rfl | exact Zjv (l := k) (sz := 32) (j := k * 32) (m := n - k) (c' := c - k) rfl rfl rfl rfl (by omega) (by omega) rfl (by omega) (by omega) (by omega))
        | ((with_reducible apply Zac); rfl; rfl; (first
        | exact (rfl : _ = Value.int _ _)
        | exact (rfl : _ = Value.slice _ _ _)))
        | ((with_reducible apply Z3); rfl; rfl; (exact (rfl : _ = Value.int _ _)))
        | ((with_reducible apply Zl); rfl; rfl; (exact (rfl : _ = Value.int _ _)); (exact (rfl : _ = Value.int _ _)); (with_reducible exact Zer (by omega)))
        | ((with_reducible apply Zdm); rfl; rfl; (exact (rfl : _ = Value.slice _ _ _)); (exact (rfl : _ = some (Value.int _ _))))
        | ((with_reducible apply Zay); rfl; exact (rfl : _ = Value.pointer (some ⟨_, _, _⟩)); (exact (rfl : _ = Value.agg _)); (rfl); exact (rfl : _ = _ :: _))
        | ((with_reducible apply Zbs (nid := 1)); rfl; rfl; rfl; exact (rfl : _ = _ :: _))
        | ((with_reducible apply Zo (hS)); rfl; rfl; rfl; rfl; rfl; (exact (rfl : _ = Value.int _ _)))
        | ((with_reducible apply Zo (hK)); rfl; rfl; rfl; rfl; rfl; (exact (rfl : _ = Value.agg _)))
        | with_reducible refine Za ?_
        | with_reducible refine Zg ?_
        | with_reducible refine Zf ?_
        | with_reducible refine Z0 ?_
        | with_reducible refine Zq ?_
        | with_reducible refine Zc ?_
        | (with_reducible refine Zb3 (by kernel_rfl) ?_)
        | (with_reducible refine Zc1 (by kernel_rfl) ?_)
        | ((with_reducible apply Zu); rfl))
      refine Zr ?_
      refine Zk (v := dgV x) (by kernel_rfl) rfl rfl (Zgn ds) (Zbm (Zbu fun _ => rfl) rfl)
set_option maxHeartbeats 8000000 in
theorem Zsi (ds : List D) (d : D) (n c : Nat) (hn : ds.length = n) (hb : n ≤ 1000000) (hc : n ≤ c) : Z6 Tryz.prog G 70 [slv 0 0 n c, dgV d] [dsR ds] (slv 1 0 (n + 1) (n + 1)) [dsR ds, dsB (ds ++ [d])] := by
 refine Za8 (fn := Tryz.f70) (nt := 14) rfl rfl rfl rfl ?_
 refine Zaa 3 (H' := [dsR ds, hole, hole, hole]) rfl ?_
 repeat (first
  | ((with_reducible apply Zk4 (nid := 2)); rfl; rfl; exact (rfl : _ = Value.agg _); rfl; exact (show _ = [dsR ds, hole, dgB d, hole] by kernel_rfl))
  | ((with_reducible apply Z3g (nid := 1)); rfl; rfl; rfl; exact .inl ⟨_, rfl⟩; exact (rfl : _ = Zuw); exact (rfl : _ = Value.slice (some ⟨_, _, _⟩) _ _); exact Z6b (n := n) (ds := ds) (rfl : _ = some (32, _, 32)) rfl (Z41 rfl rfl hn) (by decide) (by omega) rfl; exact (show _ = [dsR ds, dsB ds, dgB d, hole] by kernel_rfl))
  | ((with_reducible apply Zad); rfl; rfl; exact (rfl : _ = Value.pointer (some ⟨2, _, _⟩)); exact (show _ = some (dgV d) by kernel_rfl))
  | ((with_reducible apply Zdb (nid := 3)); rfl; rfl; rfl; exact (rfl : _ = some (Value.slice _ _ _, _)); exact (show _ = [dsR ds, dsB ds, dgB d, dsB [d]] by kernel_rfl))
  | ((with_reducible apply Zbp); rfl; rfl; rfl; exact .inl ⟨_, rfl⟩; exact (rfl : _ = Value.slice (some ⟨_, _, _⟩) _ _); exact (rfl : _ = Value.slice (some ⟨_, _, _⟩) _ _); exact Z6j (n := n) (k := 1) (n' := n + 1) (ls := ds) (ms := [d]) (rfl : _ = some (32, _, 32)) rfl (Z41 (n := 1) rfl rfl rfl) rfl hn rfl (by decide) (by omega); rfl; exact (show _ = [dsR ds, dsB (ds ++ [d]), dgB d, dsB [d]] by kernel_rfl))
  | ((with_reducible apply Zac); rfl; rfl; (exact (rfl : _ = Value.slice _ _ _)))
  | ((with_reducible apply Z3); rfl; rfl; (exact (rfl : _ = Value.slice _ _ _)))
  | with_reducible refine Za ?_
  | with_reducible refine Zg ?_
  | with_reducible refine Zf ?_
  | with_reducible refine Zq ?_
  | with_reducible refine Zc ?_)
 refine Zr ?_
 refine Zk (v := slv 1 0 (n + 1) (n + 1)) rfl rfl rfl ?_ ?_
 ·simp [Za0, dsR, dsB]
 ·exact ⟨rfl, Nat.zero_add _ ▸ rfl, rfl, Nat.le_refl _, Nat.le_refl _⟩
end Go.Flat
end
section
namespace Go.Flat
open Go.Proofs
variable {G : Glob}
set_option maxHeartbeats 8000000 in
theorem Zye (kk : Nat → BitVec 32) (hG : G 2 = some (Zag w32 64 kk)) : ∀ (n : Nat) (ds : List D) (c i : Nat), ds.length = n → n ≤ 1000000 → n ≤ c → i < n →
  Z6 Tryz.prog G 43 [slv 0 0 n c, Iv (i : Nat)] [dsR ds] (slv 1 0 (Zcp kk ds i).length (Zcp kk ds i).length) [dsR ds, dsB (Zcp kk ds i)] := by
 intro n
 induction n using Nat.strongRecOn with
 | ind n ih =>
  intro ds c i hn hb hc hi
  refine Za8 (fn := Tryz.f43) (nt := 37) rfl rfl rfl rfl ?_
  refine Zaa 2 (H' := [dsR ds, hole, hole]) rfl ?_
  by_cases h1 : n = 1
  ·have hp : Zcp kk ds i = [] := Zh7 kk i (by omega)
   rw [hp]
   iterate 19 (first
    | ((with_reducible apply Zac); rfl; rfl; (exact (rfl : _ = Value.slice _ _ _)))
    | ((with_reducible apply Z3); rfl; rfl; (exact (rfl : _ = Value.slice _ _ _)))
    | ((with_reducible apply Zl); rfl; rfl; (exact (rfl : _ = Value.int _ _)); (exact (rfl : _ = Value.int _ _)); (with_reducible exact Zdn (by omega)))
    | ((with_reducible apply Zdm); rfl; rfl; (exact (rfl : _ = Value.slice _ _ _)); (exact (rfl : _ = some (Value.int _ _))))
    | with_reducible refine Za ?_
    | with_reducible refine Zg ?_
    | with_reducible refine Zf ?_
    | with_reducible refine Zc ?_
    | ((with_reducible apply Zx); rfl))
   refine Zbo (Zb6.nilTmp (i := 4) (b := 1) true 32 rfl (by decide) rfl) ?_
   repeat (first
    | with_reducible refine Zq ?_
    | with_reducible refine Zz ?_)
   refine Zr ?_
   refine Zk (v := slv 1 0 0 0) rfl rfl rfl ?_ ?_
   ·simp [Za0, dsR, dsB, Zew]
   ·exact ⟨rfl, rfl, rfl, Nat.le_refl _, Nat.le_refl _⟩
  ·obtain ⟨s1, s2, s3⟩ := Zd7 (n := n) (by omega)
   have hS := Zpd (G := G) (n : Int) (by omega) (by omega)
   rw [s3] at hS
   have hkk : Zaz n = (Zdh (n : Int)).toNat := rfl
   generalize (Zdh (n : Int)).toNat = k at *
   have e1 : ds.take k = sub ds 0 k := by simp [sub]
   have e2 : ds.drop k = sub ds k (n - k) := by unfold sub; rw [List.take_of_length_le (by simp; omega)]
   by_cases hik : i < k
   ·have hp := Zm5 kk (l := ds) (i := i) (by omega) (by rw [hn, hkk]; exact hik)
    rw [hn, hkk, e1, e2] at hp
    have hR := ih k (by omega) (sub ds 0 k) c i (Zcr (by omega)) (by omega) (by omega) hik
    have hRb := Zmp (G := G) kk hG (n - k) (sub ds k (n - k)) (c - k) (Zcr (by omega)) (by omega) (by omega)
    have hQl := Zlw kk k (sub ds 0 k) i (by rw [Zcr (by omega)]; exact Nat.le_refl _)
    rw [Zcr (by omega)] at hQl
    generalize Zcp kk (sub ds 0 k) i = Q at *
    generalize Zby kk (sub ds k (n - k)) = x at *
    have hBh := Zsi (G := G) Q x Q.length Q.length rfl (by omega) (Nat.le_refl _)
    generalize hq : Q.length = q at *
    repeat (first
     | ((with_reducible apply Z2 (e := [some (0, 0)]) (nid := 2) hR); rfl; rfl; rfl; rfl; rfl; rfl; rfl; refine ⟨⟨⟨rfl, rfl, by omega, by omega, by omega⟩, rfl, trivial⟩, ⟨Zgx rfl (.inl rfl) (by omega) rfl, trivial⟩, rfl, rfl, rfl⟩; exact (show _ = slv 2 0 q q by kernel_rfl); exact (show _ = [dsR ds, hole, dsB Q] by kernel_rfl))
     | ((with_reducible apply Z2 (e := [some (0, k * 32)]) (nid := 0) hRb); rfl; rfl; rfl; rfl; rfl; rfl; rfl; refine ⟨⟨⟨rfl, rfl, by omega, by omega, by omega⟩, trivial⟩, ⟨Zgx rfl (.inl rfl) (by omega) rfl, trivial⟩, rfl, rfl, rfl⟩; exact (rfl : _ = Value.agg _); exact (rfl : _ = _ :: _))
     | ((with_reducible apply Z2 (e := [some (2, 0)]) (nid := 1) hBh); rfl; rfl; rfl; rfl; rfl; rfl; rfl; refine ⟨⟨⟨rfl, rfl, by omega, by omega, by omega⟩, rfl, trivial⟩, ⟨Zyw rfl, trivial⟩, rfl, rfl, rfl⟩; exact (show _ = slv 1 0 (q + 1) (q + 1) by kernel_rfl); exact (show _ = [dsR ds, dsB (Q ++ [x]), dsB Q] by kernel_rfl))
     | ((with_reducible apply Zc7); rfl; rfl; exact (rfl : _ = Value.slice (some ⟨_, _, _⟩) _ _); rfl; rfl; first | exact Zfv (h := k) rfl rfl rfl (by omega) rfl | exact Zjv (l := k) (sz := 32) (j := k * 32) (m := n - k) (c' := c - k) rfl rfl rfl rfl (by omega) (by omega) rfl (by omega) (by omega) (by omega))
     | ((with_reducible apply Zac); rfl; rfl; (first
     | exact (rfl : _ = Value.int _ _)
     | exact (rfl : _ = Value.slice _ _ _)))
     | ((with_reducible apply Z3); rfl; rfl; (first
     | exact (rfl : _ = Value.int _ _)
     | exact (rfl : _ = Value.slice _ _ _)))
     | ((with_reducible apply Zl); rfl; rfl; (exact (rfl : _ = Value.int _ _)); (exact (rfl : _ = Value.int _ _)); (first
     | with_reducible exact Zcc (by omega)
     | with_reducible exact Zer (by omega)))
     | ((with_reducible apply Zdm); rfl; rfl; (exact (rfl : _ = Value.slice _ _ _)); (exact (rfl : _ = some (Value.int _ _))))
     | ((with_reducible apply Zo (hS)); rfl; rfl; rfl; rfl; rfl; (exact (rfl : _ = Value.int _ _)))
     | with_reducible refine Za ?_
     | with_reducible refine Zg ?_
     | with_reducible refine Zf ?_
     | with_reducible refine Z0 ?_
     | with_reducible refine Zq ?_
     | with_reducible refine Zc ?_
     | with_reducible refine Zz ?_
     | (with_reducible refine Zb3 (by kernel_rfl) ?_)
     | (with_reducible refine Zc1 (by kernel_rfl) ?_)
     | ((with_reducible apply Zx); rfl)
     | ((with_reducible apply Zu); rfl))
    refine Zr ?_
    rw [hp]
    refine Zk (v := slv 1 0 (q + 1) (q + 1)) rfl rfl rfl ?_ ?_
    ·simp [Za0, dsR, dsB]
    ·exact ⟨rfl, Nat.zero_add _ ▸ rfl, by simp [hq], by simp [hq], by simp [hq]⟩
   ·have hp := Zng kk (l := ds) (i := i) (by omega) (by rw [hn, hkk]; omega)
    rw [hn, hkk, e1, e2] at hp
    have hR := ih (n - k) (by omega) (sub ds k (n - k)) (c - k) (i - k) (Zcr (by omega)) (by omega) (by omega) (by omega)
    rw [show ((i - k : Nat) : Int) = (i : Int) - k from by omega] at hR
    have hRb := Zmp (G := G) kk hG k (sub ds 0 k) c (Zcr (by omega)) (by omega) (by omega)
    have hQl := Zlw kk (n - k) (sub ds k (n - k)) (i - k) (by rw [Zcr (by omega)]; exact Nat.le_refl _)
    rw [Zcr (by omega)] at hQl
    generalize Zcp kk (sub ds k (n - k)) (i - k) = Q at *
    generalize Zby kk (sub ds 0 k) = x at *
    have hBh := Zsi (G := G) Q x Q.length Q.length rfl (by omega) (Nat.le_refl _)
    generalize hq : Q.length = q at *
    repeat (first
     | ((with_reducible apply Z2 (e := [some (0, k * 32)]) (nid := 2) hR); rfl; rfl; rfl; rfl; rfl; rfl; rfl; refine ⟨⟨⟨rfl, rfl, by omega, by omega, by omega⟩, rfl, trivial⟩, ⟨Zgx rfl (.inl rfl) (by omega) rfl, trivial⟩, rfl, rfl, rfl⟩; exact (show _ = slv 2 0 q q by kernel_rfl); exact (show _ = [dsR ds, hole, dsB Q] by kernel_rfl))
     | ((with_reducible apply Z2 (e := [some (0, 0)]) (nid := 0) hRb); rfl; rfl; rfl; rfl; rfl; rfl; rfl; refine ⟨⟨⟨rfl, rfl, by omega, by omega, by omega⟩, trivial⟩, ⟨Zgx rfl (.inl rfl) (by omega) rfl, trivial⟩, rfl, rfl, rfl⟩; exact (rfl : _ = Value.agg _); exact (rfl : _ = _ :: _))
     | ((with_reducible apply Z2 (e := [some (2, 0)]) (nid := 1) hBh); rfl; rfl; rfl; rfl; rfl; rfl; rfl; refine ⟨⟨⟨rfl, rfl, by omega, by omega, by omega⟩, rfl, trivial⟩, ⟨Zyw rfl, trivial⟩, rfl, rfl, rfl⟩; exact (show _ = slv 1 0 (q + 1) (q + 1) by kernel_rfl); exact (show _ = [dsR ds, dsB (Q ++ [x]), dsB Q] by kernel_rfl))
     | ((with_reducible apply Zc7); rfl; rfl; exact (rfl : _ = Value.slice (some ⟨_, _, _⟩) _ _); rfl; rfl; first | exact Zfv (h := k) rfl rfl rfl (by omega) rfl | exact Zjv (l := k) (sz := 32) (j := k * 32) (m := n - k) (c' := c - k) rfl rfl rfl rfl (by omega) (by omega) rfl (by omega) (by omega) (by omega))
     | ((with_reducible apply Zac); rfl; rfl; (first
     | exact (rfl : _ = Value.int _ _)
     | exact (rfl : _ = Value.slice _ _ _)))
     | ((with_reducible apply Z3); rfl; rfl; (first
     | exact (rfl : _ = Value.int _ _)
     | exact (rfl : _ = Value.slice _ _ _)))
     | ((with_reducible apply Zl); rfl; rfl; (exact (rfl : _ = Value.int _ _)); (exact (rfl : _ = Value.int _ _)); (first
     | with_reducible exact Zb5 (by omega)
     | with_reducible exact Zer (by omega)
     | with_reducible exact Zc4 rfl (by omega) (by omega)))
     | ((with_reducible apply Zdm); rfl; rfl; (exact (rfl : _ = Value.slice _ _ _)); (exact (rfl : _ = some (Value.int _ _))))
     | ((with_reducible apply Zo (hS)); rfl; rfl; rfl; rfl; rfl; (exact (rfl : _ = Value.int _ _)))
     | with_reducible refine Za ?_
     | with_reducible refine Zg ?_
     | with_reducible refine Zf ?_
     | with_reducible refine Z0 ?_
     | with_reducible refine Zq ?_
     | with_reducible refine Zc ?_
     | (with_reducible refine Zb3 (by kernel_rfl) ?_)
     | (with_reducible refine Zc1 (by kernel_rfl) ?_)
     | ((with_reducible apply Zu); rfl))
    refine Zr ?_
    rw [hp]
    refine Zk (v := slv 1 0 (q + 1) (q + 1)) rfl rfl rfl ?_ ?_
    ·simp [Za0, dsR, dsB]
    ·exact ⟨rfl, Nat.zero_add _ ▸ rfl, by simp [hq], by simp [hq], by simp [hq]⟩
end Go.Flat
end
section
namespace Go.Flat
open Go.Proofs
variable {G : Glob}
def consR (kk : Nat → BitVec 32) (l : List D) (m : Nat) (kn : Bool) : List D := (Z0w kk l.length l m kn []).reverse
end Go.Flat
end
