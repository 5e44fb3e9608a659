/- Walks. -/
import Derived.Test.YtbjlgbejbolohaaDoorPlain
import Derived.RowKit
import Derived.Test.YtbjlgbejbolohaaDoorSha
import Derived.Test.YtbjlgbejbolohaaDoorFlatC
set_option linter.unusedVariables false
set_option linter.unusedSimpArgs false
set_option maxRecDepth 20000
namespace Go.Flat
variable (kk : Nat → BitVec 32)
def Zj5 (P : List D) : Nat → D
  | 0 => P.getD (P.length - 1) d0
  | j + 1 => Zba kk (P.getD (P.length - 2 - j) d0) (Zj5 P j)
theorem Zz7 {P : List D} {k : Nat} (h : k < P.length) : P.take (k + 1) = P.take k ++ [P.getD k d0] := by
 rw [List.take_add_one, List.getElem?_eq_getElem h, List.getD_eq_getElem?_getD, List.getElem?_eq_getElem h]; rfl
theorem Zph (P : List D) : ∀ j, j + 1 ≤ P.length → Zbg kk j P = P.take (P.length - 1 - j) ++ [Zj5 kk P j]
 | 0, h => by
  have := Zz7 (P := P) (k := P.length - 1) (by omega)
  rw [show P.length - 1 + 1 = P.length by omega, List.take_length] at this
  show P = P.take (P.length - 1 - 0) ++ [P.getD (P.length - 1) d0]
  rw [Nat.sub_zero]; exact this
 | j + 1, h => by
  have ih := Zph P j (by omega)
  rw [Zbg, ih]
  unfold Zgx
  have hl : (P.take (P.length - 1 - j) ++ [Zj5 kk P j]).length = P.length - j := by
   rw [List.length_append, List.length_take, List.length_singleton]; omega
  rw [hl]
  have e1 : (P.take (P.length - 1 - j) ++ [Zj5 kk P j]).take (P.length - j - 2) = P.take (P.length - 1 - (j + 1)) := by
   rw [List.take_append_of_le_length (by rw [List.length_take]; omega), List.take_take]
   congr 1; omega
  have e2 : (P.take (P.length - 1 - j) ++ [Zj5 kk P j]).getD (P.length - j - 2) d0 = P.getD (P.length - 2 - j) d0 := by
   rw [List.getD_eq_getElem?_getD, List.getElem?_append_left (by rw [List.length_take]; omega), List.getElem?_take, if_pos (by omega), ← List.getD_eq_getElem?_getD]
   congr 1; omega
  have e3 : (P.take (P.length - 1 - j) ++ [Zj5 kk P j]).getD (P.length - j - 1) d0 = Zj5 kk P j := by
   rw [List.getD_eq_getElem?_getD, List.getElem?_append_right (by rw [List.length_take]; omega), List.length_take, show P.length - j - 1 - min (P.length - 1 - j) P.length = 0 by omega]
   rfl
  rw [e1, e2, e3]; rfl
theorem Zzs (ds : List D) (h : 0 < ds.length) : Zm kk ds = Zj5 kk (Zar kk ds ds.length) ((Zar kk ds ds.length).length - 1) := by
 have hp := Ze4 kk ds ds.length
 have hpos : 1 ≤ Zak ds.length := by
  obtain ⟨n, hn⟩ : ∃ n, ds.length = n + 1 := ⟨ds.length - 1, by omega⟩
  rw [hn]; exact (Zod n).2.1
 unfold Zm
 rw [if_neg (by omega), Zph kk _ _ (by rw [hp]; omega), hp]
 rw [show Zak ds.length - 1 - (Zak ds.length - 1) = 0 by omega, List.take_zero]
 rfl
theorem Z13 (ds : List D) (x : D) : Zar kk (ds ++ [x]) (ds.length + 1) = Zbg kk (tz (ds.length + 1)) (Zar kk ds ds.length ++ [x]) := by
 rw [Zar]
 have e1 : Zar kk (ds ++ [x]) ds.length = Zar kk ds ds.length := by
  rw [Zoi kk (ds ++ [x]) ds.length (by simp), Zoi kk ds ds.length (Nat.le_refl _), List.take_append_of_le_length (Nat.le_refl _)]
 have e2 : (ds ++ [x]).getD ds.length d0 = x := by
  rw [List.getD_eq_getElem?_getD, List.getElem?_append_right (Nat.le_refl _), Nat.sub_self]; rfl
 rw [e1, e2]
end Go.Flat
namespace Go.Flat
def Z7z (x : BitVec 64) : BitVec 64 := ((x >>> (1 : Nat)) &&& 0x5555555555555555#64) + (x &&& 0x5555555555555555#64)
def Z70 (x : BitVec 64) : BitVec 64 := ((x >>> (2 : Nat)) &&& 0x3333333333333333#64) + (x &&& 0x3333333333333333#64)
def ones3 (x : BitVec 64) : BitVec 64 := ((x >>> (4 : Nat)) + x) &&& 0x0f0f0f0f0f0f0f0f#64
def ones4 (x : BitVec 64) : BitVec 64 := x + (x >>> (8 : Nat))
def ones5 (x : BitVec 64) : BitVec 64 := x + (x >>> (16 : Nat))
def ones6 (x : BitVec 64) : BitVec 64 := x + (x >>> (32 : Nat))
def Zrj (n : Nat) : Nat := (ones6 (ones5 (ones4 (ones3 (Z70 (Z7z (BitVec.ofNat 64 n))))))).toNat % 128
def pcN : Nat → Nat → Nat
  | 0, _ => 0
  | f + 1, n => n % 2 + pcN f (n / 2)
def chk (a k : Nat) : Bool := Nat.rec true (fun i b => b && Zrj (a + i) == pcN 17 (a + i)) k
theorem Zxk {a : Nat} : ∀ {k i : Nat}, chk a k = true → i < k → Zrj (a + i) = pcN 17 (a + i)
 | 0, i, _, h => absurd h (by omega)
 | k + 1, i, hc, h => by
  have hc' : (chk a k && Zrj (a + k) == pcN 17 (a + k)) = true := hc
  rw [Bool.and_eq_true] at hc'
  rcases Nat.lt_or_ge i k with q | q
  ·exact Zxk hc'.1 q
  ·obtain rfl : i = k := by omega
   exact beq_iff_eq.1 hc'.2
theorem Z7f : chk 0 2000 = true := by kernel_rfl
theorem Z7g : chk 2000 2000 = true := by kernel_rfl
theorem Z7h : chk 4000 2000 = true := by kernel_rfl
theorem Z7i : chk 6000 2000 = true := by kernel_rfl
theorem Z7j : chk 8000 2000 = true := by kernel_rfl
theorem Z7k : chk 10000 2000 = true := by kernel_rfl
theorem Z7l : chk 12000 2000 = true := by kernel_rfl
theorem Z7m : chk 14000 2000 = true := by kernel_rfl
theorem Z7n : chk 16000 2000 = true := by kernel_rfl
theorem Z7o : chk 18000 2000 = true := by kernel_rfl
theorem Z5c : chk 20000 2000 = true := by kernel_rfl
theorem Z5d : chk 22000 2000 = true := by kernel_rfl
theorem Z5e : chk 24000 2000 = true := by kernel_rfl
theorem Z5f : chk 26000 2000 = true := by kernel_rfl
theorem Z5g : chk 28000 2000 = true := by kernel_rfl
theorem Z5h : chk 30000 2000 = true := by kernel_rfl
theorem Z5i : chk 32000 2000 = true := by kernel_rfl
theorem Z5j : chk 34000 2000 = true := by kernel_rfl
theorem Z5k : chk 36000 2000 = true := by kernel_rfl
theorem Z5l : chk 38000 2000 = true := by kernel_rfl
theorem Z5m : chk 40000 2000 = true := by kernel_rfl
theorem Z5n : chk 42000 2000 = true := by kernel_rfl
theorem Z5o : chk 44000 2000 = true := by kernel_rfl
theorem Z5p : chk 46000 2000 = true := by kernel_rfl
theorem Z5q : chk 48000 2000 = true := by kernel_rfl
theorem Z5r : chk 50000 2000 = true := by kernel_rfl
theorem Z5s : chk 52000 2000 = true := by kernel_rfl
theorem Z5t : chk 54000 2000 = true := by kernel_rfl
theorem Z5u : chk 56000 2000 = true := by kernel_rfl
theorem Z5v : chk 58000 2000 = true := by kernel_rfl
theorem Z5w : chk 60000 2000 = true := by kernel_rfl
theorem Z5x : chk 62000 2000 = true := by kernel_rfl
theorem Z5y : chk 64000 2000 = true := by kernel_rfl
theorem Z5z : chk 66000 2000 = true := by kernel_rfl
theorem Z50 : chk 68000 2000 = true := by kernel_rfl
theorem Z51 : chk 70000 2000 = true := by kernel_rfl
theorem Z52 : chk 72000 2000 = true := by kernel_rfl
theorem Z53 : chk 74000 2000 = true := by kernel_rfl
theorem Z54 : chk 76000 2000 = true := by kernel_rfl
theorem Z55 : chk 78000 2000 = true := by kernel_rfl
theorem Z56 : chk 80000 2000 = true := by kernel_rfl
theorem Z57 : chk 82000 2000 = true := by kernel_rfl
theorem Z58 : chk 84000 2000 = true := by kernel_rfl
theorem Z59 : chk 86000 2000 = true := by kernel_rfl
theorem Z6a : chk 88000 2000 = true := by kernel_rfl
theorem Z6b : chk 90000 2000 = true := by kernel_rfl
theorem Z6c : chk 92000 2000 = true := by kernel_rfl
theorem Z6d : chk 94000 2000 = true := by kernel_rfl
theorem Z6e : chk 96000 2000 = true := by kernel_rfl
theorem Z6f : chk 98000 2000 = true := by kernel_rfl
theorem Z6g : chk 100000 2000 = true := by kernel_rfl
theorem Z1y {n : Nat} (h : n < 102000) : Zrj n = pcN 17 n := by
 have key : ∀ j, j < 51 → chk (j * 2000) 2000 = true := by
  intro j hj
  rcases (by omega : j = 0 ∨ j = 1 ∨ j = 2 ∨ j = 3 ∨ j = 4 ∨ j = 5 ∨ j = 6 ∨ j = 7 ∨ j = 8 ∨ j = 9 ∨ j = 10 ∨ j = 11 ∨ j = 12 ∨ j = 13 ∨ j = 14 ∨ j = 15 ∨ j = 16 ∨ j = 17 ∨ j = 18 ∨ j = 19 ∨ j = 20 ∨ j = 21 ∨ j = 22 ∨ j = 23 ∨ j = 24 ∨ j = 25 ∨ j = 26 ∨ j = 27 ∨ j = 28 ∨ j = 29 ∨ j = 30 ∨ j = 31 ∨ j = 32 ∨ j = 33 ∨ j = 34 ∨ j = 35 ∨ j = 36 ∨ j = 37 ∨ j = 38 ∨ j = 39 ∨ j = 40 ∨ j = 41 ∨ j = 42 ∨ j = 43 ∨ j = 44 ∨ j = 45 ∨ j = 46 ∨ j = 47 ∨ j = 48 ∨ j = 49 ∨ j = 50) with rfl | rfl | rfl | rfl | rfl | rfl | rfl | rfl | rfl | rfl | rfl | rfl | rfl | rfl | rfl | rfl | rfl | rfl | rfl | rfl | rfl | rfl | rfl | rfl | rfl | rfl | rfl | rfl | rfl | rfl | rfl | rfl | rfl | rfl | rfl | rfl | rfl | rfl | rfl | rfl | rfl | rfl | rfl | rfl | rfl | rfl | rfl | rfl | rfl | rfl | rfl
  ·exact Z7f
  ·exact Z7g
  ·exact Z7h
  ·exact Z7i
  ·exact Z7j
  ·exact Z7k
  ·exact Z7l
  ·exact Z7m
  ·exact Z7n
  ·exact Z7o
  ·exact Z5c
  ·exact Z5d
  ·exact Z5e
  ·exact Z5f
  ·exact Z5g
  ·exact Z5h
  ·exact Z5i
  ·exact Z5j
  ·exact Z5k
  ·exact Z5l
  ·exact Z5m
  ·exact Z5n
  ·exact Z5o
  ·exact Z5p
  ·exact Z5q
  ·exact Z5r
  ·exact Z5s
  ·exact Z5t
  ·exact Z5u
  ·exact Z5v
  ·exact Z5w
  ·exact Z5x
  ·exact Z5y
  ·exact Z5z
  ·exact Z50
  ·exact Z51
  ·exact Z52
  ·exact Z53
  ·exact Z54
  ·exact Z55
  ·exact Z56
  ·exact Z57
  ·exact Z58
  ·exact Z59
  ·exact Z6a
  ·exact Z6b
  ·exact Z6c
  ·exact Z6d
  ·exact Z6e
  ·exact Z6f
  ·exact Z6g
 have := Zxk (key (n / 2000) (by omega)) (i := n % 2000) (by omega)
 rw [show n / 2000 * 2000 + n % 2000 = n by omega] at this
 exact this
theorem Z26 {m : Nat} (h : 0 < m) : big (2 * m) = 2 * big m ∧ big (2 * m + 1) = 2 * big m := by
 obtain ⟨h1, h2, h3⟩ := Zh8 h
 unfold big at *
 have e1 : (2 * m).log2 = m.log2 + 1 := by rw [Nat.log2_eq_iff (by omega), Nat.pow_succ, Nat.pow_succ]; omega
 have e2 : (2 * m + 1).log2 = m.log2 + 1 := by rw [Nat.log2_eq_iff (by omega), Nat.pow_succ, Nat.pow_succ]; omega
 rw [e1, e2, Nat.pow_succ]; omega
theorem Z33 : ∀ m, pcF (2 * m) = pcF m ∧ pcF (2 * m + 1) = pcF m + 1 := by
 intro m
 induction m using Nat.strongRecOn with
 | ind m ih =>
  rcases Nat.eq_zero_or_pos m with h | h
  ·subst h
   refine ⟨rfl, ?_⟩
   rw [Ze3 (by omega), show big (2 * 0 + 1) = 1 from by decide, Zgr]
  ·obtain ⟨h1, h2, h3⟩ := Zh8 h
   obtain ⟨b1, b2⟩ := Z26 h
   obtain ⟨i1, i2⟩ := ih (m - big m) (by omega)
   refine ⟨?_, ?_⟩
   ·rw [Ze3 (n := 2 * m) (by omega), b1, show 2 * m - 2 * big m = 2 * (m - big m) by omega, i1, ← Ze3 h]
   ·rw [Ze3 (n := 2 * m + 1) (by omega), b2, show 2 * m + 1 - 2 * big m = 2 * (m - big m) + 1 by omega, i2, Ze3 h]; omega
theorem Zx5 : ∀ (f n : Nat), n < 2 ^ f → pcN f n = pcF n
 | 0, n, h => by
  obtain rfl : n = 0 := by simpa using h
  exact Zgr.symm
 | f + 1, n, h => by
  rw [Nat.pow_succ] at h
  rw [pcN, Zx5 f (n / 2) (by omega)]
  obtain ⟨h1, h2⟩ := Z33 (n / 2)
  rcases (by omega : n % 2 = 0 ∨ n % 2 = 1) with q | q
  ·rw [show pcF n = pcF (2 * (n / 2)) by congr 1; omega, h1, q]; omega
  ·rw [show pcF n = pcF (2 * (n / 2) + 1) by congr 1; omega, h2, q]; omega
theorem Z1x {n : Nat} (h : n ≤ 100000) : Zrj n = pcF n := (Z1y (by omega)).trans (Zx5 17 n (by omega))
end Go.Flat
namespace Go.Flat
open Go.Proofs
variable {G : Glob}
theorem Z25 {P : Program} {t : TypeId} {x y : Operand} (a : BitVec 64) : Zb0 P .and t x y (Iv (IntKind.i64.wrap (a.toNat : Int))) (Iv 127) = some (Iv ((a.toNat % 128 : Nat) : Int)) := Zc7 (by
 have hw : BitVec.ofInt 64 (IntKind.i64.wrap (a.toNat : Int)) = a := by
  have h := a.isLt
  apply BitVec.eq_of_toNat_eq
  rw [BitVec.toNat_ofInt]
  have e : IntKind.i64.wrap (a.toNat : Int) = if (9223372036854775808 : Int) ≤ (a.toNat : Int) % 18446744073709551616 then (a.toNat : Int) % 18446744073709551616 - 18446744073709551616 else (a.toNat : Int) % 18446744073709551616 := by
   simp [IntKind.wrap, IntKind.bits, IntKind.signed]
  rw [e]
  split <;> omega
 have h2 : (a &&& 127#64).toNat = a.toNat % 128 := by
  rw [BitVec.toNat_and]; exact Nat.and_two_pow_sub_one_eq_mod _ 7
 have h3 : IntKind.i64.wrap ((a.toNat % 128 : Nat) : Int) = ((a.toNat % 128 : Nat) : Int) := Zf4 (by omega) (by omega)
 simp only [binOp, ne_eq, not_true_eq_false, if_false, Op.intBits, Z4]
 show some (Value.int .i64 (IntKind.i64.wrap (((BitVec.ofInt 64 (IntKind.i64.wrap (a.toNat : Int)) &&& BitVec.ofInt 64 127).toNat : Nat) : Int))) = _
 rw [hw, show BitVec.ofInt 64 127 = 127#64 from rfl, h2, h3]) rfl
theorem Zyi (n : Nat) : Zac Go.Proofs.Tryd.prog G 61 [w64 (BitVec.ofNat 64 n)] [] (Iv (Zrj n)) [] := by
 refine Zb8 (fn := Go.Proofs.Tryd.f61) (nt := 35) rfl rfl rfl rfl ?_
 generalize hx : BitVec.ofNat 64 n = x
 repeat (first
  | ((with_reducible apply Zd); rfl; rfl; (exact (rfl : _ = Value.int _ _)))
  | ((with_reducible apply Zc); rfl; rfl; (exact (rfl : _ = Value.int _ _)))
  | ((with_reducible apply Zi); rfl; rfl; (exact (rfl : _ = Value.int _ _)); (exact (rfl : _ = Value.int _ _)); (first
  | with_reducible exact Z25 _
  | with_reducible exact Z4r (by first | exact ofI _ _ | rfl) (by first | exact ofI _ _ | rfl)
  | with_reducible exact Z0n (by first | exact ofI _ _ | rfl) (by first | exact ofI _ _ | rfl)
  | with_reducible exact Zk4 (by omega)))
  | ((with_reducible apply Zcc); rfl; rfl; (exact (rfl : _ = Value.int _ _)); (exact Zj7 rfl rfl))
  | with_reducible refine Za ?_
  | with_reducible refine Zf ?_
  | with_reducible refine Ze ?_
  | with_reducible refine Z0 ?_
  | with_reducible refine Zw ?_
  | with_reducible refine Zb ?_)
 refine Zy ?_
 refine Zdx (v := Iv _) rfl rfl ?_
 subst hx
 rfl
theorem Z2z (n : Nat) (h : n ≤ 100000) : Zac Go.Proofs.Tryd.prog G 47 [w64 (BitVec.ofNat 64 n)] [] (Iv (pcF n)) [] := by
 rw [← Z1x h]
 refine Zb8 (fn := Go.Proofs.Tryd.f47) (nt := 8) rfl rfl rfl rfl ?_
 repeat (first
  | ((with_reducible apply Zd); rfl; rfl; (exact (rfl : _ = Value.int _ _)))
  | ((with_reducible apply Zc); rfl; rfl; (exact (rfl : _ = Value.int _ _)))
  | ((with_reducible apply Zv (Zyi n)); rfl; rfl; rfl; rfl; rfl; (exact (rfl : _ = Value.int _ _)))
  | with_reducible refine Za ?_
  | with_reducible refine Zf ?_
  | with_reducible refine Ze ?_
  | with_reducible refine Z0 ?_
  | with_reducible refine Zw ?_
  | with_reducible refine Zb ?_
  | ((with_reducible apply Zr); rfl))
 refine Zy ?_
 exact Zdx (v := Iv _) rfl rfl rfl
theorem Z45 (z : Int) (n : Nat) (hz : z = n) (h : n ≤ 100000) : Zac Go.Proofs.Tryd.prog G 47 [w64 (BitVec.ofInt 64 z)] [] (Iv (pcF n)) [] := by
 subst hz; rw [BitVec.ofInt_natCast]; exact Z2z n h
theorem TZ_c (hG1 : G 2 = some (Zaa u8N 64 dbF)) (z : Int) (n : Nat) (hz : z = n) (h0 : 0 < n) (h1 : n < 18446744073709551616) : Zac Go.Proofs.Tryd.prog G 48 [w64 (BitVec.ofInt 64 z)] [] (Iv (tz n)) [] := by
 subst hz; rw [BitVec.ofInt_natCast]; exact Z4p hG1 n h0 h1
end Go.Flat
section
namespace Go.Flat
open Go.Proofs
variable {G : Glob}
end Go.Flat
end
section
namespace Go.Proofs.YtbjlgbejbolohaaDoor
open Go.ChangeShapes Go.WideShapes Go.ChangeAt Go.RowKit
end Go.Proofs.YtbjlgbejbolohaaDoor
end
section
namespace Go.Flat
open Go.Proofs
variable {G : Glob}
def Zkl (x : BitVec 32) (n : Nat) : BitVec 32 := x >>> n ||| x <<< (32 - n)
def wB64 (w : Nat → BitVec 32) : Blk := { cells := Zaa w32 64 w, sz := 64, wr := true, fix := true, mv := false, pur := true }
def inR (b : Nat → BitVec 8) : Nat → Nat → BitVec 32
  | 0 => fun _ => 0
  | k + 1 => Ze9 (inR b k) (k / 4) (inR b k (k / 4) * BitVec.ofInt 32 256 + (b k).setWidth 32)
def refW (w : Nat → BitVec 32) (t : Nat) : BitVec 32 := w (t - 16) + w (t - 7) + (Zkl (w (t - 15)) 7 ^^^ Zkl (w (t - 15)) 18 ^^^ w (t - 15) >>> 3) + (Zkl (w (t - 2)) 17 ^^^ Zkl (w (t - 2)) 19 ^^^ w (t - 2) >>> 10)
def Z4a (b : Nat → BitVec 8) : Nat → Nat → BitVec 32
  | 0 => inR b 64
  | k + 1 => Ze9 (Z4a b k) (16 + k) (refW (Z4a b k) (16 + k))
end Go.Flat
end
section
namespace Go.Flat
open Go.Proofs
variable {G : Glob}
def refP (k : BitVec 32) (v w : Nat → BitVec 32) (t : Nat) : BitVec 32 := v 7 + (Zkl (v 4) 6 ^^^ Zkl (v 4) 11 ^^^ Zkl (v 4) 25) + ((v 4 &&& v 5) ^^^ (~~~(v 4) &&& v 6)) + k + w t
def refQ (v : Nat → BitVec 32) : BitVec 32 := (Zkl (v 0) 2 ^^^ Zkl (v 0) 13 ^^^ Zkl (v 0) 22) + ((v 0 &&& v 1) ^^^ (v 0 &&& v 2) ^^^ (v 1 &&& v 2))
def Z36 (kk : Nat → BitVec 32) (v w : Nat → BitVec 32) : Nat → Nat → BitVec 32
  | 0 => v
  | t + 1 => Zp0 (refP (kk t) (Z36 kk v w t) w t) (refQ (Z36 kk v w t)) (Z36 kk v w t)
def refB (kk : Nat → BitVec 32) (v : Nat → BitVec 32) (b : Nat → BitVec 8) : Nat → BitVec 32 := Zr9 v (Z36 kk v (Z4a b 48) 64) 8
theorem Zd8 {H : List Blk} {e : Emb} {id : Nat} {L B : Blk} (hB : H[id]? = some B) (hf : (decide (0 < L.sz) && decide (0 < B.sz) && L.fix == B.fix && (L.fix || L.sz == B.sz) && (!L.pur || B.pur) && !L.wr) = true) (hc : B.cells = L.cells) (hR : Zb7 e L = L.cells) : Zc0 H e (some (id, 0)) L :=
 Zbu hB hf (by rw [hc]; omega) (by rw [hc, hR]; simp)
attribute [local irreducible] Zkl
end Go.Flat
end
section
namespace Go.Flat
open Go.Proofs
variable {G : Glob}
theorem Ztf {P : Program} {H : List Blk} {t : TypeId} {q : Value} {b c n k n' by_ : Nat} {zc : List Value} {ls : Bs} {ms : List Value} {ms' : Bs} (ht : Zcx P t = some (1, zc, by_)) (hz : zc.length = 1) (hs : Zgv H 1 q = some (k, ms)) (hms : ms = ms'.map w8) (hb : H[b]? = some (Zan ls)) (hn : ls.length = n) (hk : n + k = n') (hby : 0 < by_) (hm : n' * by_ ≤ 140737488355328) :
  Znv P H t (slv b 0 n c) q = some (slv b 0 n' n', b, Zan (ls ++ ms')) := by
 subst hms
 have hc : (Zan ls).cells.length = n := by show (ls.map w8).length = _; simp [hn]
 rw [Zcy (n' := n') (p := (k, ms'.map w8)) ht hs hb rfl rfl hz (Zzi ms') (by rw [hc]; omega) hby hk hm]
 have : List.take (n * 1) (List.drop 0 (Zan ls).cells) ++ ms'.map w8 = (ls ++ ms').map w8 := by
  rw [List.drop_zero, List.take_of_length_le (by rw [hc]; omega), List.map_append]; rfl
 simp only [this]
 rfl
end Go.Flat
end
section
namespace Go.Flat
open Go.Proofs
variable {G : Glob}
theorem Zwi {P : Program} {H : List Blk} {t : TypeId} {b o n c : Nat} {k k' : IntKind} {l h sz j m c' : Nat} {e : TypeId} {i : TypeInfo} {x y : Int} (hu : P.underlying t = some (.slice e)) (hi : P.info? e = some i) (hz : i.size = sz) (hx : x = (l : Int)) (hy : y = (h : Int)) (hl : l ≤ h) (hh : h ≤ c) (ho : Zme H b i.size = true) (hj : o + l * sz = j) (hm : h - l = m) (hc' : c - l = c') :
  Zgf P H t (slv b o n c) (some (.int k x)) (some (.int k' y)) = some (slv b j m c') := by
 subst hx; subst hy; subst hz; subst hm; subst hc'
 unfold Zgf
 rw [hu]
 simp only [Zdf, Zjk, Option.bind_some]
 rw [if_pos ⟨by omega, by omega⟩]
 simp [hi, ho, hj, hl]
def Z7a (kk v : Nat → BitVec 32) (l : Bs) : Nat → Nat → BitVec 32
  | 0 => v
  | j + 1 => refB kk (Z7a kk v l j) (Zga l j)
def refS (kk : Nat → BitVec 32) (M : Bs) : Nat → BitVec 8 := Znp (Z7a kk Zs1 (M ++ Zeu M 8) ((M ++ Zeu M 8).length / 64)) 32
end Go.Flat
end
section
namespace Go.Flat
open Go.Proofs
variable {G : Glob}
theorem Zkn {P : Program} {t : TypeId} {x y : Operand} {a b : ByteArray} (h : a.size + b.size ≤ 140737488351232) : Zb0 P .add t x y (.string a) (.string b) = some (.string (a ++ b)) := by
 unfold Zb0
 rw [if_pos (show (Zbk (.string a) && Zbk (.string b)) = true from rfl)]
 have hg : Z8 P (eqGuard .add t x y (.string a) (.string b)) = some () := rfl
 rw [Z9, hg, Option.bind_some]
 have e : binOp .add t (.string a) (.string b) = Op.stringOp .add a b := rfl
 rw [e]
 unfold Op.stringOp
 dsimp only
 rw [if_neg (by show ¬ (((a.size + b.size : Nat) : Int) > 9223372036854775807); omega)]
 rfl
def refKF (kk : Nat → BitVec 32) (a b : Nat → BitVec 8) : Nat → BitVec 8 := refS kk (Zbn [Zql, Zs (dgL a), Zs (dgL b)])
end Go.Flat
end
section
namespace Go.Flat

def wF (b : Nat → BitVec 8) (i : Nat) : BitVec 32 := Z4a b (i - 15) i
end Go.Flat
end
section
namespace Go.Flat
open Go.Proofs
variable {G : Glob}
end Go.Flat
end
section
namespace Go.Flat
open Go.Proofs
variable {G : Glob}
end Go.Flat
end
section
namespace Go.Flat
open Go.Proofs
variable {G : Glob}
def Zjw (kk : Nat → BitVec 32) (l : List D) (m : Nat) (kn : Bool) : List D := (Zd1 kk l.length l m kn []).reverse
theorem Zyx (kk : Nat → BitVec 32) {l : List D} {m : Nat} (kn : Bool) (h : l.length ≤ m) : Zjw kk l m kn = if kn then [] else [Zm kk l] := by
  unfold Zjw
  cases e : l.length with
  | zero => unfold Zd1; cases kn <;> rfl
  | succ n => unfold Zd1; rw [if_pos h]; cases kn <;> rfl
theorem Z01 (kk : Nat → BitVec 32) {l : List D} {m : Nat} (kn : Bool) (h1 : 1 ≤ m) (hm : m < l.length) (hi : m ≤ Zz l.length) : Zjw kk l m kn = Zjw kk (l.take (Zz l.length)) m kn ++ [Zm kk (l.drop (Zz l.length))] := by
 obtain ⟨s1, s2⟩ := Zb1 (n := l.length) (by omega)
 unfold Zjw
 obtain ⟨f, hf⟩ : ∃ f, l.length = f + 1 := ⟨l.length - 1, by omega⟩
 conv => lhs; rw [hf]; unfold Zd1
 rw [if_neg (by omega)]
 dsimp only
 rw [show (Zct (l.length : Int)).toNat = Zz l.length from rfl, if_pos hi, Zfn, Zjb kk f (l.take (Zz l.length)).length _ _ _ _ h1 (by simp; omega) (by omega)]
 simp
theorem Z00 (kk : Nat → BitVec 32) {l : List D} {m : Nat} (kn : Bool) (hm : m < l.length) (hi : Zz l.length < m) : Zjw kk l m kn = Zjw kk (l.drop (Zz l.length)) (m - Zz l.length) false ++ [Zm kk (l.take (Zz l.length))] := by
 obtain ⟨s1, s2⟩ := Zb1 (n := l.length) (by omega)
 unfold Zjw
 obtain ⟨f, hf⟩ : ∃ f, l.length = f + 1 := ⟨l.length - 1, by omega⟩
 conv => lhs; rw [hf]; unfold Zd1
 rw [if_neg (by omega)]
 dsimp only
 rw [show (Zct (l.length : Int)).toNat = Zz l.length from rfl, if_neg (by omega), Zfn, Zjb kk f (l.drop (Zz l.length)).length _ _ _ _ (by omega) (by simp; omega) (by omega)]
 simp
end Go.Flat
end
