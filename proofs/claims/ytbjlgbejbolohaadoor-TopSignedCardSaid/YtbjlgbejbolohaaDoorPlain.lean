/- Walks. -/
import Derived.Test.YtbjlgbejbolohaaDoorSha
import Derived.Test.YtbjlgbejbolohaaDoorFlatC
import Derived.Carry
import Derived.ReadAgain
import Derived.Test.YtbjlgbejbolohaaDoorTie
import Derived.Test.YtbjlgbejbolohaaDoorCards
import Derived.ProofKit
import Derived.OpenShut
import Derived.LaidMore
import Derived.Lay
import Derived.SevenTiedAt
set_option linter.unusedVariables false
set_option linter.unusedSimpArgs false
set_option maxRecDepth 20000
namespace Go.Flat
def Zpa {α : Type} (n : Nat) (k : Nat → α) : α := match n with | 0 => k 0 | m + 1 => k (m + 1)
theorem Zdl {α : Type} (n : Nat) (k : Nat → α) : Zpa n k = k n := by cases n <;> rfl
def Zzt (a n : Nat) : Nat := Nat.lor (Nat.mod (Nat.shiftLeft a n) 4294967296) (Nat.shiftRight a (Nat.sub 32 n))
def S3 (a p q z : Nat) : Nat := Nat.xor (Nat.xor (Zzt a p) (Zzt a q)) z
def pN (h e f g k w : Nat) : Nat := Nat.mod (Nat.add (Nat.mod (Nat.add (Nat.mod (Nat.add (Nat.mod (Nat.add h (S3 e 26 21 (Zzt e 7))) 4294967296) (Nat.xor g (Nat.land e (Nat.xor f g)))) 4294967296) k) 4294967296) w) 4294967296
def qN (a b c : Nat) : Nat := Nat.mod (Nat.add (S3 a 30 19 (Zzt a 10)) (Nat.xor (Nat.xor (Nat.land a b) (Nat.land a c)) (Nat.land b c))) 4294967296
def wN (w0 w1 w9 w14 : Nat) : Nat := Nat.mod (Nat.add w0 (Nat.mod (Nat.add (Nat.mod (Nat.add w9 (S3 w1 25 14 (Nat.shiftRight w1 3))) 4294967296) (S3 w14 15 13 (Nat.shiftRight w14 10))) 4294967296)) 4294967296
def goN : List Nat → List Nat → Nat → Nat → Nat → Nat → Nat → Nat → Nat → Nat → List Nat
  | [], _, a, b, c, d, e, f, g, h => [a, b, c, d, e, f, g, h]
  | k :: ks, w, a, b, c, d, e, f, g, h =>
    Zpa (pN h e f g k (w.getD 0 0)) fun p => Zpa (Nat.mod (Nat.add p (qN a b c)) 4294967296) fun x => Zpa (Nat.mod (Nat.add d p) 4294967296) fun y =>
      Zpa (wN (w.getD 0 0) (w.getD 1 0) (w.getD 9 0) (w.getD 14 0)) fun z => goN ks (w.drop 1 ++ [z]) x a b c y e f g
theorem Zoj (x : BitVec 32) (n : Nat) : (rot x n).toNat = Zzt x.toNat n := by
 unfold rot Zzt
 rw [BitVec.toNat_or, BitVec.toNat_shiftLeft, BitVec.toNat_ushiftRight]; rfl
theorem Zr6 (x z : BitVec 32) (a b : Int) : (Zju x a b z).toNat = S3 x.toNat ((0 - a) % 32).toNat ((0 - b) % 32).toNat z.toNat := by
 unfold Zju S3
 rw [BitVec.toNat_xor, BitVec.toNat_xor, Zoj, Zoj]; rfl
theorem p_nat (k : BitVec 32) (v w : Nat → BitVec 32) (t : Nat) : (Zkh k v w t).toNat = pN (v 7).toNat (v 4).toNat (v 5).toNat (v 6).toNat k.toNat (w (t % 16)).toNat := by
 unfold Zkh pN
 rw [BitVec.toNat_add, BitVec.toNat_add, BitVec.toNat_add, BitVec.toNat_add, Zr6, Zoj, BitVec.toNat_xor, BitVec.toNat_and, BitVec.toNat_xor]; rfl
theorem q_nat (v : Nat → BitVec 32) : (Zmd v).toNat = qN (v 0).toNat (v 1).toNat (v 2).toNat := by
 unfold Zmd qN
 rw [BitVec.toNat_add, Zr6, Zoj, BitVec.toNat_xor, BitVec.toNat_xor, BitVec.toNat_and, BitVec.toNat_and, BitVec.toNat_and]; rfl
theorem w_nat (w0 w1 w9 w14 : BitVec 32) : (w0 + (w9 + Zju w1 7 18 (w1 >>> 3) + Zju w14 17 19 (w14 >>> 10))).toNat = wN w0.toNat w1.toNat w9.toNat w14.toNat := by
 unfold wN
 rw [BitVec.toNat_add, BitVec.toNat_add, BitVec.toNat_add, Zr6, Zr6, BitVec.toNat_ushiftRight, BitVec.toNat_ushiftRight]; rfl
def fwT (kk : Nat → BitVec 32) : Nat → Nat → (Nat → BitVec 32) × (Nat → BitVec 32) → (Nat → BitVec 32) × (Nat → BitVec 32)
  | 0, _, p => p
  | n + 1, t, p => fwT kk n (t + 1) (Zp0 (Zkh (kk t) p.1 p.2 t) (Zmd p.1) p.1, Zp1 p.2 t)
theorem Ztx (kk v w : Nat → BitVec 32) : ∀ n t, fwT kk n t (Zp3 kk v w t) = Zp3 kk v w (t + n)
 | 0, t => rfl
 | n + 1, t => by
  have := Ztx kk v w n (t + 1)
  rw [show t + (n + 1) = t + 1 + n by omega, ← this]; rfl
theorem Z1c (kk : Nat → BitVec 32) : ∀ (ks : List Nat) (t : Nat) (W : List Nat) (v w : Nat → BitVec 32), (∀ i, i < ks.length → (kk (t + i)).toNat = ks.getD i 0) → W.length = 16 → (∀ j, j < 16 → (w ((t + j) % 16)).toNat = W.getD j 0) →
  ∀ i, i < 8 → ((fwT kk ks.length t (v, w)).1 i).toNat = (goN ks W (v 0).toNat (v 1).toNat (v 2).toNat (v 3).toNat (v 4).toNat (v 5).toNat (v 6).toNat (v 7).toNat).getD i 0
 | [], t, W, v, w, hk, hl, hw, i, hi => by
  show (v i).toNat = _
  unfold goN
  match i, hi with
  | 0, _ | 1, _ | 2, _ | 3, _ | 4, _ | 5, _ | 6, _ | 7, _ => rfl
 | k :: ks, t, W, v, w, hk, hl, hw, i, hi => by
  have h0 := hw 0 (by omega)
  have h1 := hw 1 (by omega)
  have h9 := hw 9 (by omega)
  have h14 := hw 14 (by omega)
  have hk0 : (kk t).toNat = k := hk 0 (by simp)
  rw [Nat.add_zero] at h0
  unfold goN
  rw [Zdl, Zdl, Zdl, Zdl]
  show ((fwT kk ks.length (t + 1) (Zp0 (Zkh (kk t) v w t) (Zmd v) v, Zp1 w t)).1 i).toNat = _
  have hp : (Zkh (kk t) v w t).toNat = pN (v 7).toNat (v 4).toNat (v 5).toNat (v 6).toNat k (W.getD 0 0) := by rw [p_nat, hk0, h0]
  have hz : (Zp1 w t (t % 16)).toNat = wN (W.getD 0 0) (W.getD 1 0) (W.getD 9 0) (W.getD 14 0) := by
   unfold Zp1 Ze9
   rw [if_pos rfl, w_nat, h0, h1, h9, h14]
  have ih := Z1c kk ks (t + 1) (W.drop 1 ++ [wN (W.getD 0 0) (W.getD 1 0) (W.getD 9 0) (W.getD 14 0)]) (Zp0 (Zkh (kk t) v w t) (Zmd v) v) (Zp1 w t)
   (fun i hi => by have := hk (i + 1) (by simp; omega); rw [show t + 1 + i = t + (i + 1) by omega]; exact this) (by simp [hl]) (fun j hj => ?_) i hi
  ·rw [ih]
   have e0 : (Zp0 (Zkh (kk t) v w t) (Zmd v) v 0).toNat = Nat.mod (Nat.add (pN (v 7).toNat (v 4).toNat (v 5).toNat (v 6).toNat k (W.getD 0 0)) (qN (v 0).toNat (v 1).toNat (v 2).toNat)) 4294967296 := by
    show (Zkh (kk t) v w t + Zmd v).toNat = _
    rw [BitVec.toNat_add, hp, q_nat]; rfl
   have e4 : (Zp0 (Zkh (kk t) v w t) (Zmd v) v 4).toNat = Nat.mod (Nat.add (v 3).toNat (pN (v 7).toNat (v 4).toNat (v 5).toNat (v 6).toNat k (W.getD 0 0))) 4294967296 := by
    show (v 3 + Zkh (kk t) v w t).toNat = _
    rw [BitVec.toNat_add, hp]; rfl
   rw [e0, e4]; rfl
  ·by_cases hj15 : j = 15
   ·subst hj15
    rw [show (t + 1 + 15) % 16 = t % 16 by omega, hz]
    generalize wN (W.getD 0 0) (W.getD 1 0) (W.getD 9 0) (W.getD 14 0) = z
    rw [List.getD_eq_getElem?_getD, List.getElem?_append_right (by simp [hl])]
    simp [hl]
   ·have hne : ¬ (t + 1 + j) % 16 = t % 16 := by omega
    have := hw (j + 1) (by omega)
    rw [show t + (j + 1) = t + 1 + j by omega] at this
    unfold Zp1 Ze9
    rw [if_neg hne, this, List.getD_eq_getElem?_getD, List.getD_eq_getElem?_getD, List.getElem?_append_left (by simp [hl]; omega), List.getElem?_drop, Nat.add_comm]
def Zmn (b : Nat → BitVec 8) (k : Nat) : Nat → BitVec 32
  | 0 => 0
  | r + 1 => Zmn b k r <<< 8 ||| (b (4 * k + r)).setWidth 32
theorem Zq6 (b : Nat → BitVec 8) (k : Nat) : ∀ n, Zj0 b n k = Zmn b k (min (n - 4 * k) 4)
 | 0 => by rw [Nat.zero_sub]; rfl
 | n + 1 => by
  have ih := Zq6 b k n
  show Ze9 (Zj0 b n) (n / 4) (Zj0 b n (n / 4) <<< 8 ||| (b n).setWidth 32) k = _
  unfold Ze9
  by_cases hk : k = n / 4
  ·rw [if_pos hk, ← hk, ih, show min (n + 1 - 4 * k) 4 = min (n - 4 * k) 4 + 1 by omega]
   show _ = Zmn b k (min (n - 4 * k) 4) <<< 8 ||| (b (4 * k + min (n - 4 * k) 4)).setWidth 32
   rw [show 4 * k + min (n - 4 * k) 4 = n by omega]
  ·rw [if_neg hk, ih]; congr 1; omega
def Zyd (a b c d : Nat) : Nat := Nat.lor (Nat.mod (Nat.shiftLeft (Nat.lor (Nat.mod (Nat.shiftLeft (Nat.lor (Nat.mod (Nat.shiftLeft (Nat.lor (Nat.mod (Nat.shiftLeft 0 8) 4294967296) a) 8) 4294967296) b) 8) 4294967296) c) 8) 4294967296) d
theorem Zya (x : BitVec 8) : (x.setWidth 32).toNat = x.toNat := by
 rw [BitVec.toNat_setWidth]; exact Nat.mod_eq_of_lt (by have := x.isLt; omega)
theorem Zz9 (b : Nat → BitVec 8) (k : Nat) : (Zmn b k 4).toNat = Zyd (b (4 * k)).toNat (b (4 * k + 1)).toNat (b (4 * k + 2)).toNat (b (4 * k + 3)).toNat := by
 unfold Zmn Zmn Zmn Zmn Zmn Zyd
 rw [BitVec.toNat_or, BitVec.toNat_shiftLeft, BitVec.toNat_or, BitVec.toNat_shiftLeft, BitVec.toNat_or, BitVec.toNat_shiftLeft, BitVec.toNat_or, BitVec.toNat_shiftLeft, Zya, Zya, Zya, Zya]; rfl
def Zjv : Nat → List Nat → List Nat
  | 0, _ => []
  | n + 1, l => Zpa (Zyd (l.getD 0 0) (l.getD 1 0) (l.getD 2 0) (l.getD 3 0)) fun x => x :: Zjv n (l.drop 4)
theorem Zqd : ∀ n l, (Zjv n l).length = n
 | 0, l => rfl
 | n + 1, l => by unfold Zjv; rw [Zdl]; simp [Zqd n]
theorem Zpb (l : List Nat) (i k : Nat) : (l.drop k).getD i 0 = l.getD (k + i) 0 := by
 rw [List.getD_eq_getElem?_getD, List.getD_eq_getElem?_getD, List.getElem?_drop]
theorem Zqc : ∀ (n : Nat) (l : List Nat) (j : Nat), j < n → (Zjv n l).getD j 0 = Zyd (l.getD (4 * j) 0) (l.getD (4 * j + 1) 0) (l.getD (4 * j + 2) 0) (l.getD (4 * j + 3) 0)
 | n + 1, l, 0, _ => by unfold Zjv; rw [Zdl]; rfl
 | n + 1, l, j + 1, h => by
  unfold Zjv; rw [Zdl, List.getD_cons_succ, Zqc n (l.drop 4) j (by omega)]
  simp only [Zpb]
  congr 2 <;> omega
def Zvf : List Nat → List Nat → List Nat
  | a :: us, b :: vs => Zpa (Nat.mod (Nat.add a b) 4294967296) fun x => x :: Zvf us vs
  | _, _ => []
def Zta (ks : List Nat) : Nat → List Nat → List Nat → List Nat
  | 0, v, _ => v
  | n + 1, v, l => Zta ks n (Zvf v (goN ks (Zjv 16 l) (v.getD 0 0) (v.getD 1 0) (v.getD 2 0) (v.getD 3 0) (v.getD 4 0) (v.getD 5 0) (v.getD 6 0) (v.getD 7 0))) (l.drop 64)
theorem Zso : ∀ (ks w : List Nat) (a b c d e f g h : Nat), (goN ks w a b c d e f g h).length = 8
 | [], _, _, _, _, _, _, _, _, _ => rfl
 | k :: ks, w, a, b, c, d, e, f, g, h => by unfold goN; rw [Zdl, Zdl, Zdl, Zdl]; exact Zso ks _ _ _ _ _ _ _ _ _
theorem Ztc : ∀ (us vs : List Nat) (i : Nat), i < us.length → i < vs.length → (Zvf us vs).getD i 0 = (us.getD i 0 + vs.getD i 0) % 4294967296
 | a :: us, b :: vs, 0, _, _ => by unfold Zvf; rw [Zdl]; rfl
 | a :: us, b :: vs, i + 1, h1, h2 => by unfold Zvf; rw [Zdl, List.getD_cons_succ, Ztc us vs i (by simpa using h1) (by simpa using h2)]; rfl
theorem Zos : ∀ (us vs : List Nat), us.length = vs.length → (Zvf us vs).length = us.length
 | [], [], _ => rfl
 | a :: us, b :: vs, h => by unfold Zvf; rw [Zdl]; simp [Zos us vs (by simpa using h)]
theorem Zot (v V : Nat → BitVec 32) : ∀ n i, Zr9 v V n i = if i < n then v i + V i else v i
 | 0, i => by simp [Zr9]
 | n + 1, i => by
  show Ze9 (Zr9 v V n) n (Zr9 v V n n + V n) i = _
  unfold Ze9
  by_cases h : i = n
  ·subst h; rw [if_pos rfl, if_pos (by omega), Zot v V i i, if_neg (by omega)]
  ·rw [if_neg h, Zot v V n i]
   by_cases h2 : i < n
   ·rw [if_pos h2, if_pos (by omega)]
   ·rw [if_neg h2, if_neg (by omega)]
theorem Zw5 (kk : Nat → BitVec 32) (ks : List Nat) (hl : ks.length = 64) (hk : ∀ i, i < 64 → (kk i).toNat = ks.getD i 0) (M : Bs) : ∀ (n j : Nat) (v : List Nat) (l : List Nat) (V : Nat → BitVec 32), v.length = 8 → (∀ i, i < 8 → (V i).toNat = v.getD i 0) → (∀ i, l.getD i 0 = (M.getD (64 * j + i) 0).toNat) → V = Zk7 kk Zs1 M j →
  ∀ i, i < 8 → (Zk7 kk Zs1 M (j + n) i).toNat = (Zta ks n v l).getD i 0
 | 0, j, v, l, V, h8, hv, hM, hV, i, hi => by
  subst hV; exact hv i hi
 | n + 1, j, v, l, V, h8, hv, hM, hV, i, hi => by
  have hg := fun i hi => Z1c kk ks 0 (Zjv 16 l) V (Zj0 (Zga M j) 64) (fun i hi => by rw [Nat.zero_add]; exact hk i (by omega)) (Zqd 16 l) (fun q hq => by
   rw [Nat.zero_add, Nat.mod_eq_of_lt hq, Zq6, show min (64 - 4 * q) 4 = 4 by omega, Zz9, Zqc 16 l q hq]
   unfold Zga
   rw [hM, hM, hM, hM]) i hi
  rw [hl, show fwT kk 64 0 (V, Zj0 (Zga M j) 64) = Zp3 kk V (Zj0 (Zga M j) 64) 64 from Ztx kk V _ 64 0] at hg
  have hL := Zso ks (Zjv 16 l) (v.getD 0 0) (v.getD 1 0) (v.getD 2 0) (v.getD 3 0) (v.getD 4 0) (v.getD 5 0) (v.getD 6 0) (v.getD 7 0)
  rw [show j + (n + 1) = j + 1 + n by omega]
  refine Zw5 kk ks hl hk M n (j + 1) _ _ (Z2b kk V (Zga M j)) (by rw [Zos _ _ (by rw [h8, hL]), h8]) (fun i hi => ?_) (fun i => ?_) (by subst hV; rfl) i hi
  ·rw [Ztc _ _ _ (by omega) (by omega)]
   have := hg i hi
   rw [hv 0 (by omega), hv 1 (by omega), hv 2 (by omega), hv 3 (by omega), hv 4 (by omega), hv 5 (by omega), hv 6 (by omega), hv 7 (by omega)] at this
   unfold Z2b
   rw [Zot, if_pos hi, BitVec.toNat_add, hv i hi, this]
  ·rw [Zpb, hM]; congr 2; omega
def Zk9 : List Nat → List Nat
  | [] => []
  | a :: l => Nat.mod (Nat.shiftRight a 24) 256 :: Nat.mod (Nat.shiftRight a 16) 256 :: Nat.mod (Nat.shiftRight a 8) 256 :: Nat.mod a 256 :: Zk9 l
def Zvz : List Nat := [0x6a09e667, 0xbb67ae85, 0x3c6ef372, 0xa54ff53a, 0x510e527f, 0x9b05688c, 0x1f83d9ab, 0x5be0cd19]
def Z64 (ks : List Nat) (n : Nat) (l : List Nat) : List Nat := Zk9 (Zta ks n Zvz l)
theorem Zrs (v : Nat → BitVec 32) : ∀ n i, i < n → Znp v n i = Z4b v i
 | n + 1, i, h => by
  show Ze9 (Znp v n) n (Z4b v n) i = _
  unfold Ze9
  by_cases e : i = n
  ·rw [if_pos e, e]
  ·rw [if_neg e, Zrs v n i (by omega)]
theorem Zor (ks : List Nat) : ∀ (n : Nat) (v l : List Nat), v.length = 8 → (Zta ks n v l).length = 8
 | 0, v, l, h => h
 | n + 1, v, l, h => Zor ks n _ _ (by rw [Zos _ _ (by rw [Zso, h]), h])
theorem Zo1 : ∀ (l : List Nat) (i : Nat), i < 4 * l.length → (Zk9 l).getD i 0 = Nat.mod (Nat.shiftRight (l.getD (i / 4) 0) (24 - i % 4 * 8)) 256
 | [], i, h => by simp at h
 | a :: l, 0, h => rfl
 | a :: l, 1, h => rfl
 | a :: l, 2, h => rfl
 | a :: l, 3, h => rfl
 | a :: l, i + 4, h => by
  show (Zk9 l).getD i 0 = _
  rw [Zo1 l i (by simp at h; omega), show (i + 4) / 4 = i / 4 + 1 by omega, show (i + 4) % 4 = i % 4 by omega]; rfl
theorem Zla : ∀ l, (Zk9 l).length = 4 * l.length
 | [] => rfl
 | a :: l => by simp [Zk9, Zla l]; omega
theorem Zxt (kk : Nat → BitVec 32) (ks : List Nat) (hl : ks.length = 64) (hk : ∀ i, i < 64 → (kk i).toNat = ks.getD i 0) (M : Bs) {n : Nat} {ms out : List Nat} (hm : (M ++ Zeu M 8).map BitVec.toNat = ms) (hn : (M ++ Zeu M 8).length / 64 = n) (h : Z64 ks n ms = out) : dgL (Zbb kk M) = out.map (BitVec.ofNat 8) := by
 have hv : ∀ i, i < 8 → (Zlo kk (M ++ Zeu M 8) i).toNat = (Zta ks n Zvz ms).getD i 0 := by
  intro i hi
  have := Zw5 kk ks hl hk (M ++ Zeu M 8) n 0 Zvz ms Zs1 rfl (fun i hi => by
   match i, hi with
   | 0, _ | 1, _ | 2, _ | 3, _ | 4, _ | 5, _ | 6, _ | 7, _ => rfl) (fun i => by
   rw [← hm, Nat.mul_zero, Nat.zero_add, List.getD_eq_getElem?_getD, List.getD_eq_getElem?_getD, List.getElem?_map]
   cases (M ++ Zeu M 8)[i]? <;> rfl) rfl i hi
  rw [Nat.zero_add] at this
  unfold Zlo
  rw [hn]; exact this
 subst h
 apply List.ext_getElem?
 intro i
 rcases Nat.lt_or_ge i 32 with hi | hi
 ·have hlen : (Zta ks n Zvz ms).length = 8 := Zor ks n _ _ rfl
  have hb := Zo1 (Zta ks n Zvz ms) i (by rw [hlen]; omega)
  have hbl : i < (Zk9 (Zta ks n Zvz ms)).length := by rw [Zla, hlen]; omega
  unfold dgL Z64
  rw [List.getElem?_map, List.getElem?_map, List.getElem?_range hi, List.getElem?_eq_getElem hbl]
  simp only [Option.map_some]
  rw [List.getD_eq_getElem?_getD, List.getElem?_eq_getElem hbl] at hb
  simp only [Option.getD_some] at hb
  rw [hb]
  congr 1
  show Znp _ 32 i = _
  rw [Zrs _ 32 i hi]
  unfold Z4b
  apply BitVec.eq_of_toNat_eq
  rw [BitVec.toNat_setWidth, BitVec.toNat_ushiftRight, hv (i / 4) (by omega), BitVec.toNat_ofNat]
  have e : ((24 : Int) - (i : Int) % 4 * 8).toNat = 24 - i % 4 * 8 := by omega
  rw [e]
  show _ % 256 = (_ % 256) % 256
  rw [Nat.mod_mod]; rfl
 ·rw [List.getElem?_eq_none (by simp [dgL]; omega), List.getElem?_eq_none (by simp [Z64, Zla, Zor ks n Zvz ms rfl]; omega)]
def Z4c : List Nat := [1116352408, 1899447441, 3049323471, 3921009573, 961987163, 1508970993, 2453635748, 2870763221, 3624381080, 310598401, 607225278, 1426881987, 1925078388, 2162078206, 2614888103, 3248222580, 3835390401, 4022224774, 264347078, 604807628, 770255983, 1249150122, 1555081692, 1996064986, 2554220882, 2821834349, 2952996808, 3210313671, 3336571891, 3584528711, 113926993, 338241895, 666307205, 773529912, 1294757372, 1396182291, 1695183700, 1986661051, 2177026350, 2456956037, 2730485921, 2820302411, 3259730800, 3345764771, 3516065817, 3600352804, 4094571909, 275423344, 430227734, 506948616, 659060556, 883997877, 958139571, 1322822218, 1537002063, 1747873779, 1955562222, 2024104815, 2227730452, 2361852424, 2428436474, 2756734187, 3204031479, 3329325298]
end Go.Flat
section
/- A law's row, out of its contract: whatever the arguments, as long as what was there is not written. -/
namespace Go.Flat
open Go.ChangeShapes Go.WideShapes Go.RowKit
section
variable {H : Type} {enc : TypeId × Value → H} {P : Program} {m m' : MapM} {W W' : World}
theorem Zk6 (hl : laidOutB P = true) {sp : Nat → Bool} (hk : ∀ g, g < W.heap.size → W'.heap[g]? = W.heap[g]?) : ∀ {ts : List TypeId} {vs : List Value} {ds : List (DataW H)} {ps : List MemPlace}, (ts.all fun t => P.readableRec t && decide (t < P.types.size)) = true →
  DataW.TrodAll enc P W 0 (fun _ => true) true ts vs ds ps → (∀ p ∈ ps, p.block < W.heap.size) → (∀ p ∈ ps, sp p.block = true) → DataW.TrodAll enc P W' 0 sp true ts vs ds ps
 | [], [], [], _, _, h, _, _ => h
 | t :: ts, v :: vs, d :: ds, ps, ht, ⟨p, q, h1, h2, e⟩, hlt, hs => by
  rw [List.all_cons, Bool.and_eq_true, Bool.and_eq_true] at ht
  refine ⟨p, q, WideElems.Trod_stays hl ht.1.1 (of_decide_eq_true ht.1.2) h1 (fun x hx => ?_) (fun x hx => hs x (by rw [e]; exact List.mem_append_left _ hx)), Zk6 hl hk ht.2 h2 (fun x hx => hlt x (by rw [e]; exact List.mem_append_right _ hx)) (fun x hx => hs x (by rw [e]; exact List.mem_append_right _ hx)), e⟩
  have := hk x.block (hlt x (by rw [e]; exact List.mem_append_left _ hx))
  unfold World.sameAt
  cases x <;> simp_all [MemPlace.block, World.cell?]
 | [], _ :: _, _, _, _, h, _, _ => h.elim
 | [], [], _ :: _, _, _, h, _, _ => h.elim
 | _ :: _, [], _, _, _, h, _, _ => h.elim
 | _ :: _, _ :: _, [], _, _, h, _, _ => h.elim
theorem Z1q {f : Func} {s : ChangeSpec} {apart fresh handsOn again : Bool} {args : Array Value} {ds gs : List (DataW H)} {before : List MemPlace} {tb : TypeId}
  (hW : DataW.Whole enc P f.params.toList s.vars apart W args.toList ds gs before) (hv : s.vars = []) (hs : s.fn H ds = { results := [.lit (.bool true)], args := ds })
  (hr : f.resultTypes = #[tb]) (hb : P.underlying tb = some .bool) (hl : laidOutB P = true) (ht : (f.params.toList.all fun t => P.readableRec t && decide (t < P.types.size)) = true)
  (hm : ∀ b r, m b = some r → r.wr = false) (hf : Frame ⟨m, W, []⟩ m' W') : s.post enc P f apart fresh handsOn again W args (.bool true) W' := by
 have hlt : ∀ p ∈ before, p.block < W.heap.size := fun p hp => hW.lt p hp
 have hW' := hW
 obtain ⟨p, q, hA, hV, he, _, _⟩ := hW'
 rw [hv] at hV
 obtain ⟨rfl, rfl⟩ := trodVars_none hV
 rw [List.append_nil] at he
 subst he
 have e1 := hs
 refine Zug (pa := before) (pv := []) hW (fun _ _ _ => ?_) (fun sp hsp => ?_) (fun sp hsp => ?_) (by simp) (hf.kept hm _) (fun a ha => hf.frozen hm a ha) ?_
 ·rw [List.append_nil, e1, hr]
  exact trodAll_mk1 (shut_bool hb _)
 ·rw [List.append_nil, e1]
  exact Zk6 hl (fun g hg => hf.same hm hg) ht hA hlt hsp
 ·rw [List.append_nil, e1, hv]; rfl
 ·intro j t r h1 h2
  rw [hr] at h1 h2
  cases j with
  | zero =>
   simp [Value.resultList] at h1 h2
   subst h1; subst h2
   exact okWide_bool_mk hb _
  | succ j => simp at h1
theorem Zzf {f : FuncId} {fn : Func} {G : Glob} {s : ChangeSpec} {apart fresh handsOn again : Bool} {args : Array Value} {ds gs : List (DataW H)} {before : List MemPlace} {tb : TypeId} {σ σ' : List Blk} {argsL : List Value}
  (hW : DataW.Whole enc P fn.params.toList s.vars apart W args.toList ds gs before) (hv : s.vars = []) (hs : s.fn H ds = { results := [.lit (.bool true)], args := ds })
  (hr : fn.resultTypes = #[tb]) (hb : P.underlying tb = some .bool) (hl : laidOutB P = true) (ht : (fn.params.toList.all fun t => P.readableRec t && decide (t < P.types.size)) = true)
  (hm : ∀ b r, m b = some r → r.wr = false) (hrel : HRel G m σ W) (ha : L2 (VR m) argsL args.toList) (hC : Zac P G f argsL σ (.bool true) σ') :
  Calls P f args W fun e W' => ∃ v, e = .returned v ∧ s.post enc P fn apart fresh handsOn again W args v W' := by
 refine (hC m W args.toList hrel ha).mono ?_
 rintro e w' ⟨v', m', rfl, h1, h2, h3⟩
 have : v' = .bool true := h2
 subst this
 exact ⟨_, rfl, Z1q hW hv hs hr hb hl ht hm h3⟩
theorem HRel.addRow {G : Glob} {σ : List Blk} (h : HRel G m σ W) (hm : ∀ b r, m b = some r → r.wr = false) {blk : Blk} {r : Reg} (hw : blk.wr = false) (hsz : 0 < blk.sz) (h1 : r.wr = false) (h2 : r.fix = blk.fix) (h3 : r.len = blk.cells.length) (h4 : r.sz = blk.sz) (h5 : r.mv = blk.mv)
    (hc : ∀ i v, blk.cells[i]? = some v → ∃ v', W.cell? ⟨r.g, r.lo + i, none⟩ = some v' ∧ CR (fun b => if b = σ.length then some r else m b) v v') (hp : blk.pur = true → ∀ v, v ∈ blk.cells → Zbh v = true) :
    HRel G (fun b => if b = σ.length then some r else m b) (σ ++ [blk]) W ∧ (∀ b r', (if b = σ.length then some r else m b) = some r' → r'.wr = false) ∧ ∀ b r', m b = some r' → (if b = σ.length then some r else m b) = some r' := by
  have hdom : m σ.length = none := h.dom (Nat.le_refl _)
  have hext : ∀ b r', m b = some r' → (if b = σ.length then some r else m b) = some r' := by
    intro b r' hb
    by_cases e : b = σ.length
    · subst e; rw [hdom] at hb; cases hb
    · rw [if_neg e]; exact hb
  have hro : ∀ b r', (if b = σ.length then some r else m b) = some r' → r'.wr = false := by
    intro b r' hb
    by_cases e : b = σ.length
    · rw [if_pos e] at hb; injection hb with hb; subst hb; exact h1
    · rw [if_neg e] at hb; exact hm b r' hb
  have hget : ∀ b x, (σ ++ [blk])[b]? = some x → (b < σ.length ∧ σ[b]? = some x) ∨ (b = σ.length ∧ x = blk) := by
    intro b x hx
    rcases Nat.lt_or_ge b σ.length with hlt | hge
    · rw [List.getElem?_append_left hlt] at hx; exact .inl ⟨hlt, hx⟩
    · rw [List.getElem?_append_right hge] at hx
      cases e : b - σ.length with
      | zero => rw [e] at hx; simp at hx; exact .inr ⟨by omega, hx.symm⟩
      | succ k => rw [e] at hx; simp at hx
  refine ⟨{ reg := ?_, live := ?_, cell := ?_, pur := ?_, own := ?_, dis := ?_, glob := h.glob, gwr := ?_ }, hro, hext⟩
  · intro b r' hb
    by_cases e : b = σ.length
    · subst e
      rw [if_pos rfl] at hb; injection hb with hb; subst hb
      exact ⟨blk, by simp, hsz, by rw [h1, hw], h2, h3, h4, h5⟩
    · rw [if_neg e] at hb
      obtain ⟨B, g1, g2⟩ := h.reg b r' hb
      exact ⟨B, by rw [List.getElem?_append_left (List.getElem?_eq_some_iff.1 g1).1]; exact g1, g2⟩
  · intro b x hx h0
    rcases hget b x hx with ⟨hlt, hx⟩ | ⟨rfl, rfl⟩
    · obtain ⟨r', hr'⟩ := h.live b x hx h0
      exact ⟨r', hext _ _ hr'⟩
    · exact ⟨r, if_pos rfl⟩
  · intro b x r' i v hx hb hv
    rcases hget b x hx with ⟨hlt, hx⟩ | ⟨rfl, rfl⟩
    · rw [if_neg (by omega)] at hb
      obtain ⟨v', g1, g2⟩ := h.cell b x r' i v hx hb hv
      exact ⟨v', g1, g2.mono hext⟩
    · rw [if_pos rfl] at hb; injection hb with hb; subst hb
      exact hc i v hv
  · intro b x hx
    rcases hget b x hx with ⟨hlt, hx⟩ | ⟨rfl, rfl⟩
    · exact h.pur b x hx
    · exact hp
  · intro b r' hb hw'
    rw [hro b r' hb] at hw'; cases hw'
  · intro b b' r1 r2 _ hb _ hw'
    rw [hro b r1 hb] at hw'; cases hw'
  · intro b r' j hb hw'
    rw [hro b r' hb] at hw'; cases hw'
end
end Go.Flat
end
section
/- Opening an argument: a slice of arrays of bytes. -/
namespace Go.Flat
open Go.ChangeShapes Go.WideShapes Go.RowKit
section
variable {H : Type} {enc : TypeId × Value → H} {P : Program} {W : World}
theorem Zxj {a : Addr} {x : Nat} {v : Value} (h : W.cell? (a.add x) = some v) : W.cell? ⟨a.block, a.off + x, none⟩ = some v ∧ a.spot = none ∨ (W.cell? ⟨a.block, a.off + x, none⟩ = some v ∧ 0 < x) := by
 obtain ⟨b, o, s⟩ := a
 unfold Addr.add at h
 split at h
 ·rename_i hx
  subst hx
  cases s with
  | none => exact .inl ⟨h, rfl⟩
  | some q => unfold World.cell? at h; split at h <;> simp at h
 ·exact .inr ⟨h, by omega⟩
theorem Z0y {a : Addr} {x : Nat} {v : Value} (h : W.cell? (a.add x) = some v) : W.cell? ⟨a.block, a.off + x, none⟩ = some v := by
 rcases Zxj h with h | h
 ·exact h.1
 ·exact h.1
theorem Zvm {a : Addr} {v : Value} (h : W.cell? (a.add 0) = some v) : a.spot = none := by
 rcases Zxj h with h | h
 ·exact h.2
 ·omega
theorem Zw6 (a : Addr) (x y : Nat) : (a.add x).add y = a.add (x + y) := by
 obtain ⟨b, o, s⟩ := a
 unfold Addr.add
 by_cases hx : x = 0
 ·subst hx; by_cases hy : y = 0
  ·subst hy; simp
  ·simp [hy]
 ·by_cases hy : y = 0
  ·subst hy; simp [hx]
  ·simp [hx, hy]; omega
def byteAt (W : World) (g o : Nat) : BitVec 8 := match W.cell? ⟨g, o, none⟩ with | some (.int _ z) => BitVec.ofInt 8 z | _ => 0
end
end Go.Flat
end
section
namespace Go.Flat
open Go.Proofs
variable {G : Glob}

theorem Zuo (P : List D) : ∀ (i : Nat), 2 * i ≤ P.length → ∀ j, j < P.length → (Zjq P i)[j]? = if j < i ∨ P.length - i ≤ j then P[P.length - 1 - j]? else P[j]?
 | 0, _, j, hj => by simp [Zjq]; omega
 | i + 1, h, j, hj => by
  have ih := Zuo P i (by omega)
  have hl := Zmb P i
  have gd : ∀ k, k < P.length → (Zjq P i)[k]? = some ((Zjq P i).getD k d0) := fun k hk => by
   rw [List.getD_eq_getElem?_getD, List.getElem?_eq_getElem (by omega)]; rfl
  simp only [Zjq]
  rcases Nat.lt_trichotomy j (P.length - 1 - i) with h1 | h1 | h1
  ·rw [List.getElem?_set_ne (by omega)]
   rcases Nat.lt_trichotomy j i with h2 | h2 | h2
   ·rw [List.getElem?_set_ne (by omega), ih j hj, if_pos (.inl h2), if_pos (.inl (by omega))]
   ·subst h2
    rw [List.getElem?_set_self (by omega), ← gd _ (by omega), ih _ (by omega), if_neg (by omega), if_pos (.inl (by omega))]
   ·rw [List.getElem?_set_ne (by omega), ih j hj, if_neg (by omega), if_neg (by omega)]
  ·subst h1
   rw [List.getElem?_set_self (by rw [List.length_set]; omega), ← gd _ (by omega), ih i (by omega), if_neg (by omega), if_pos (.inr (by omega))]
   congr 1; omega
  ·rw [List.getElem?_set_ne (by omega), List.getElem?_set_ne (by omega), ih j hj, if_pos (.inr (by omega)), if_pos (.inr (by omega))]
theorem Zup (P : List D) : Zjq P (P.length / 2) = P.reverse := by
 apply List.ext_getElem?
 intro j
 rcases Nat.lt_or_ge j P.length with h | h
 ·rw [Zuo P _ (by omega) j h, List.getElem?_reverse h]
  split
  ·rfl
  ·congr 1; omega
 ·rw [List.getElem?_eq_none (by rw [Zmb]; exact h), List.getElem?_eq_none (by simpa using h)]
theorem Zg7 (kk : Nat → BitVec 32) : ∀ (f : Nat) (l : List D) (i : Nat) (dn : List D), Zfp kk f l i dn = dn ++ Zfp kk f l i []
 | 0, l, i, dn => by simp [Zfp]
 | f + 1, l, i, dn => by
  unfold Zfp
  split
  ·simp
  ·dsimp only
   split
   ·rw [Zg7 kk f _ _ (dn ++ _), Zg7 kk f _ _ ([] ++ _)]; simp
   ·rw [Zg7 kk f _ _ (dn ++ _), Zg7 kk f _ _ ([] ++ _)]; simp
theorem Zji (kk : Nat → BitVec 32) : ∀ (f g : Nat) (l : List D) (i : Nat) (dn : List D), l.length ≤ f + 1 → l.length ≤ g + 1 → Zfp kk f l i dn = Zfp kk g l i dn
  | 0, 0, _, _, _, _, _ => rfl
  | 0, g + 1, l, i, dn, h, _ => by conv => rhs; unfold Zfp
                                   rw [if_pos (by omega)]; rfl
  | f + 1, 0, l, i, dn, _, h => by conv => lhs; unfold Zfp
                                   rw [if_pos (by omega)]; rfl
  | f + 1, g + 1, l, i, dn, h1, h2 => by
    unfold Zfp
    split
    · rfl
    · rename_i hl
      obtain ⟨s1, s2, _⟩ := Zdt (n := l.length) (by omega)
      dsimp only
      split
      · exact Zji kk f g _ _ _ (by simp; omega) (by simp; omega)
      · exact Zji kk f g _ _ _ (by simp; omega) (by simp; omega)
def Zcf (kk : Nat → BitVec 32) (l : List D) (i : Nat) : List D := (Zfp kk l.length l i []).reverse
def Zz (n : Nat) : Nat := (Zct n).toNat
theorem Zmz (kk : Nat → BitVec 32) {l : List D} (i : Nat) (h : l.length ≤ 1) : Zcf kk l i = [] := by
 unfold Zcf
 cases e : l.length with
 | zero => rfl
 | succ n => unfold Zfp; rw [if_pos h]; rfl
theorem Zt1 (kk : Nat → BitVec 32) {l : List D} {i : Nat} (h : 2 ≤ l.length) (hi : i < Zz l.length) : Zcf kk l i = Zcf kk (l.take (Zz l.length)) i ++ [Zm kk (l.drop (Zz l.length))] := by
 obtain ⟨s1, s2, _⟩ := Zdt (n := l.length) h
 change 1 ≤ Zz l.length at s1
 change Zz l.length < l.length at s2
 unfold Zcf
 obtain ⟨f, hf⟩ : ∃ f, l.length = f + 1 := ⟨l.length - 1, by omega⟩
 conv => lhs; rw [hf]; unfold Zfp
 rw [if_neg (by omega)]
 dsimp only
 rw [show (Zct (l.length : Int)).toNat = Zz l.length from rfl, if_pos hi, Zg7, Zji kk f (l.take (Zz l.length)).length _ _ _ (by simp; omega) (by omega)]
 simp
theorem Zt0 (kk : Nat → BitVec 32) {l : List D} {i : Nat} (h : 2 ≤ l.length) (hi : Zz l.length ≤ i) : Zcf kk l i = Zcf kk (l.drop (Zz l.length)) (i - Zz l.length) ++ [Zm kk (l.take (Zz l.length))] := by
 obtain ⟨s1, s2, _⟩ := Zdt (n := l.length) h
 change 1 ≤ Zz l.length at s1
 change Zz l.length < l.length at s2
 unfold Zcf
 obtain ⟨f, hf⟩ : ∃ f, l.length = f + 1 := ⟨l.length - 1, by omega⟩
 conv => lhs; rw [hf]; unfold Zfp
 rw [if_neg (by omega)]
 dsimp only
 rw [show (Zct (l.length : Int)).toNat = Zz l.length from rfl, if_neg (by omega), Zg7, Zji kk f (l.drop (Zz l.length)).length _ _ _ (by simp; omega) (by omega)]
 simp

theorem Z2y (kk : Nat → BitVec 32) (hG : G 0 = some (Zaa w32 64 kk)) (hG1 : G 2 = some (Zaa u8N 64 dbF)) (ds : List D) (c i : Nat) {n q : Nat} (hl : ds.length = n) (hn : n ≤ 1000000) (hc : n ≤ c) (hi : i < n) (hq : (Zcf kk ds i).length = q) :
  Zac Tryd.prog G 12 [slv 0 0 n c, Iv (i : Nat)] [dsR ds] (.tuple #[slv 1 0 q q, Iv 0]) [dsR ds, dsB (Zcf kk ds i)] := by
 subst hl; subst hq
 have h := Zr3 (G := G) kk hG hG1 ds c i hn hc hi
 dsimp only at h
 rw [Zup] at h
 unfold Zcf
 rw [List.length_reverse]
 exact h
theorem Zg1 {H : List Blk} {e : Emb} {id o m j : Nat} {ds : List D} {B : Blk} (hB : H[id]? = some B) (hb : B = dsR ds ∨ B = dsB ds) (h : o + m ≤ ds.length) (hj : j = o * 32) : Zc0 H e (some (id, j)) (dsR (sub ds o m)) := by
  subst hj
  have hc : B.cells = dsC ds := by rcases hb with rfl | rfl <;> rfl
  refine Zbu hB (by rcases hb with rfl | rfl <;> rfl) ?_ ?_
  · show _ + (dsC _).length ≤ _
    rw [hc, Zat, Zat, Zau h]; omega
  · show (B.cells.drop _).take (dsC _).length = dsC _
    rw [hc, Zat, Zau h]
    exact Zkq h
end Go.Flat
end
section
namespace Go.Flat
open Go.Proofs
section
variable {H : Type} {enc : TypeId × Value → H} {P : Program} {W : World} {G : Glob} {m : MapM} {σ : List Blk}
def dsOf (n : Nat) (f : Nat → BitVec 8) : List D := (List.range n).map fun i j => f (i * 32 + j)
end
end Go.Flat
end
namespace Go.Proofs.YtbjlgbejbolohaaDoor
open Go.ChangeShapes Go.WideShapes Go.ChangeAt Go.RowKit
def ints (l : List (DataW Unit)) : List Int := l.map fun | .lit (.int _ z) => z | _ => 0
def parts : DataW Unit → List (DataW Unit) | .agg l => l | _ => []
noncomputable def kz : List Int := ints (parts Rows.laid_estreat_sha_table)
noncomputable def bz : List Int := ints (parts Rows.laid_math_bits_deBruijn64tab)
noncomputable def kk : Nat → BitVec 32 := Flat.tabW 32 kz
noncomputable def G0 : Flat.Glob := fun g => if g = 0 then some (Flat.Zaa Flat.w32 64 kk) else if g = 2 then some (Flat.Zaa Flat.u8N 64 Flat.dbF) else none
theorem hG : G0 0 = some (Flat.Zaa Flat.w32 64 kk) := rfl
theorem hG1 : G0 2 = some (Flat.Zaa Flat.u8N 64 Flat.dbF) := rfl
theorem own : ownKnob Tryd.prog.godebug = none := by kernel_rfl
theorem hrel_of_laid {W : World} {l : List (String × DataW Unit)} (hp : (l.all fun x => x.2.handleName?.isNone) = true) (h : laidMetH Tryd.prog l W)
    (h0 : ("estreat/sha.table", Rows.laid_estreat_sha_table) ∈ l) (h1 : ("math/bits.deBruijn64tab", Rows.laid_math_bits_deBruijn64tab) ∈ l) : Flat.HRel G0 (fun _ => none) [] W := by
  refine Flat.HRel.plain fun g cs hg => ?_
  unfold G0 at hg
  split at hg
  · rename_i e
    subst e
    injection hg with hg
    subst hg
    have r := Flat.Zpi h hp h0
    rw [show (Rows.laid_estreat_sha_table : DataW Unit) = Lib.tabData .u32 kz from by kernel_rfl] at r
    exact r.tab (g := 0) (t := 135) (e := 99) (c := 64) (by kernel_rfl) (by kernel_rfl) (by kernel_rfl) (by kernel_rfl) (by kernel_rfl) (by kernel_rfl) (by decide +kernel) (by kernel_rfl)
  split at hg
  · rename_i e
    subst e
    injection hg with hg
    subst hg
    have r := Flat.Zpi h hp h1
    rw [show (Rows.laid_math_bits_deBruijn64tab : DataW Unit) = Lib.tabData .u8 bz from by kernel_rfl] at r
    exact r.tab (g := 2) (t := 127) (e := 5) (c := 64) (by kernel_rfl) (by kernel_rfl) (by kernel_rfl) (by kernel_rfl) (by kernel_rfl) (by kernel_rfl) (by decide +kernel) (by kernel_rfl)
  · cases hg
end Go.Proofs.YtbjlgbejbolohaaDoor
section
namespace Go.Flat

theorem Zb1 {n : Nat} (h : 2 ≤ n) : 1 ≤ Zz n ∧ Zz n < n := by
 obtain ⟨s1, s2, _⟩ := Zdt (n := n) h
 exact ⟨s1, s2⟩
theorem Zi3 {n : Nat} (h : 2 ≤ n) : Zz n = 2 ^ (n - 1).log2 := by
 unfold Zz Zct Zaw
 rw [if_neg (by omega)]
 have hb : ((n : Int) - 1).toNat = n - 1 := by omega
 rw [hb, if_neg (by omega)]
 have : ((2 : Int) ^ ((n - 1).log2 + 1 - 1)) = ((2 ^ (n - 1).log2 : Nat) : Int) := by simp
 rw [this]; rfl
theorem Zrt {n j : Nat} (h1 : 2 ^ j < n) (h2 : n ≤ 2 * 2 ^ j) : Zz n = 2 ^ j := by
 have h3 : 0 < 2 ^ j := Nat.pow_pos (by decide)
 rw [Zi3 (by omega)]
 congr 1
 rw [Nat.log2_eq_iff (by omega)]
 rw [Nat.pow_succ]; omega
def Zg0 (kk : Nat → BitVec 32) (ds : List D) : D :=
  if h : ds.length ≤ 1 then (if ds.length = 0 then Zbb kk [] else ds.getD 0 d0)
  else Zba kk (Zg0 kk (ds.take (Zz ds.length))) (Zg0 kk (ds.drop (Zz ds.length)))
termination_by ds.length
decreasing_by
  · have := Zb1 (n := ds.length) (by omega)
    simp; omega
  · have := Zb1 (n := ds.length) (by omega)
    simp; omega
theorem Znc (kk : Nat → BitVec 32) {ds : List D} (h : 2 ≤ ds.length) : Zg0 kk ds = Zba kk (Zg0 kk (ds.take (Zz ds.length))) (Zg0 kk (ds.drop (Zz ds.length))) := by
 rw [Zg0, dif_neg (by omega)]
theorem Zzr (kk : Nat → BitVec 32) (d : D) : Zg0 kk [d] = d := by
 rw [Zg0, dif_pos (by simp)]; simp
def pk (kk : Nat → BitVec 32) (ds : List D) : List D :=
  if h : ds.length = 0 then [] else Zg0 kk (ds.take (big ds.length)) :: pk kk (ds.drop (big ds.length))
termination_by ds.length
decreasing_by
  have := Zh8 (n := ds.length) (by omega)
  simp; omega
theorem Zm8 (kk : Nat → BitVec 32) {ds : List D} (h : 0 < ds.length) : pk kk ds = Zg0 kk (ds.take (big ds.length)) :: pk kk (ds.drop (big ds.length)) := by
 rw [pk, dif_neg (by omega)]
theorem Zm7 (kk : Nat → BitVec 32) {ds : List D} (h : ds.length = 0) : pk kk ds = [] := by
 rw [pk, dif_pos h]
theorem Zv1 (kk : Nat → BitVec 32) {P : List D} (a : D) (h : 2 ≤ P.length) : Zgx kk (a :: P) = a :: Zgx kk P := by
 unfold Zgx
 simp only [List.length_cons]
 rw [show P.length + 1 - 2 = (P.length - 2) + 1 from by omega, show P.length + 1 - 1 = (P.length - 1) + 1 from by omega]
 simp
theorem Zjm (kk : Nat → BitVec 32) {P : List D} (a : D) : ∀ n, n + 1 ≤ P.length → Zbg kk n (a :: P) = a :: Zbg kk n P
 | 0, _ => rfl
 | n + 1, h => by
  simp only [Zbg]
  rw [Zjm kk a n (by omega), Zv1 kk a (by rw [Ziu kk n (by omega)]; omega)]
theorem Zrb (kk : Nat → BitVec 32) (a b : D) : Zgx kk [a, b] = [Zba kk a b] := by simp [Zgx]
theorem Z60 (kk : Nat → BitVec 32) (d : D) : ∀ (n : Nat) (ds : List D), ds.length = n → tz (n + 1) ≤ (pk kk ds).length ∧ Zbg kk (tz (n + 1)) (pk kk ds ++ [d]) = pk kk (ds ++ [d]) := by
 intro n
 induction n using Nat.strongRecOn with
 | ind n ih =>
  intro ds hn
  rcases Nat.eq_zero_or_pos n with h0 | h0
  ·subst h0
   have : ds = [] := List.eq_nil_of_length_eq_zero hn
   subst this
   rw [Zm7 kk rfl]
   refine ⟨by decide, ?_⟩
   rw [Zm8 kk (by simp)]
   simp only [List.nil_append, List.length_cons, List.length_nil]
   rw [show big (0 + 1) = 1 from by decide, show tz (0 + 1) = 0 from by decide]
   simp [Zzr, Zm7, Zbg]
  ·obtain ⟨b1, b2, b3⟩ := Zh8 h0
   have ht := Zyc h0
   obtain ⟨i1, i2⟩ := ih (n - big n) (by omega) (ds.drop (big n)) (by simp [hn])
   have hp : pk kk ds = Zg0 kk (ds.take (big n)) :: pk kk (ds.drop (big n)) := by rw [Zm8 kk (by omega), hn]
   rw [hp]
   by_cases hd : n + 1 = 2 * big n
   ·rw [if_pos hd] at ht
    rw [ht]
    refine ⟨by simp; omega, ?_⟩
    rw [List.cons_append]
    show Zgx kk (Zbg kk _ _) = _
    rw [Zjm kk _ _ (by simp; omega), i2]
    have hl2 : (ds.drop (big n) ++ [d]).length = big n := by simp [hn]; omega
    have e1 : pk kk (ds.drop (big n) ++ [d]) = [Zg0 kk (ds.drop (big n) ++ [d])] := by
     rw [Zm8 kk (by simp)]
     have hb : big (ds.drop (big n) ++ [d]).length = (ds.drop (big n) ++ [d]).length := by
      rw [hl2]; unfold big; rw [Nat.log2_two_pow]
     rw [hb, List.take_length, List.drop_length, Zm7 kk rfl]
    rw [e1, Zrb, Zm8 kk (by simp)]
    have hlen : (ds ++ [d]).length = n + 1 := by simp [hn]
    rw [hlen, Zxb h0 hd, ← hlen, List.take_length, List.drop_length, Zm7 kk rfl, Znc kk (ds := ds ++ [d]) (by omega), hlen]
    have hs : Zz (n + 1) = big n := Zrt (by unfold big at *; omega) (by unfold big at *; omega)
    rw [hs, List.take_append_of_le_length (by omega), List.drop_append_of_le_length (by omega)]
   ·rw [if_neg hd] at ht
    simp only [Nat.add_zero] at ht
    rw [ht]
    refine ⟨by simp; omega, ?_⟩
    rw [List.cons_append, Zjm kk _ _ (by simp; omega), i2, Zm8 kk (ds := ds ++ [d]) (by simp)]
    have hlen : (ds ++ [d]).length = n + 1 := by simp [hn]
    rw [hlen, Zxa h0 (by omega), List.take_append_of_le_length (by omega), List.drop_append_of_le_length (by omega)]
theorem Zoi (kk : Nat → BitVec 32) (ds : List D) : ∀ i, i ≤ ds.length → Zar kk ds i = pk kk (ds.take i)
 | 0, _ => by rw [Zm7 kk (by simp)]; rfl
 | i + 1, h => by
  simp only [Zar]
  rw [Zoi kk ds i (by omega), (Z60 kk (ds.getD i d0) i (ds.take i) (by simp; omega)).2]
  congr 1
  rw [List.take_add_one]
  congr 1
  simp [List.getD_eq_getElem?_getD, show i < ds.length from by omega]
theorem Z34 (kk : Nat → BitVec 32) : ∀ (n : Nat) (ds : List D), ds.length = n → 0 < n → 1 ≤ (pk kk ds).length ∧ Zbg kk ((pk kk ds).length - 1) (pk kk ds) = [Zg0 kk ds] := by
 intro n
 induction n using Nat.strongRecOn with
 | ind n ih =>
  intro ds hn h0
  obtain ⟨b1, b2, b3⟩ := Zh8 h0
  have hp : pk kk ds = Zg0 kk (ds.take (big n)) :: pk kk (ds.drop (big n)) := by rw [Zm8 kk (by omega), hn]
  rw [hp]
  refine ⟨by simp, ?_⟩
  rcases Nat.eq_or_lt_of_le b1 with he | hlt
  ·rw [Zm7 kk (ds := ds.drop (big n)) (by simp; omega), List.take_of_length_le (by omega)]; rfl
  ·obtain ⟨i1, i2⟩ := ih (n - big n) (by omega) (ds.drop (big n)) (by simp [hn]) (by omega)
   simp only [List.length_cons, Nat.add_sub_cancel]
   obtain ⟨m, hm⟩ : ∃ m, (pk kk (ds.drop (big n))).length = m + 1 := ⟨_, (Nat.sub_add_cancel i1).symm⟩
   rw [hm] at i2 ⊢
   show Zgx kk (Zbg kk m _) = _
   rw [Zjm kk _ m (by omega)]
   rw [Nat.add_sub_cancel] at i2
   rw [i2, Zrb, Znc kk (ds := ds) (by omega), hn]
   have hs : Zz n = big n := Zrt (by unfold big at *; omega) (by unfold big at *; omega)
   rw [hs]
theorem Zpx (kk : Nat → BitVec 32) (ds : List D) : Zm kk ds = Zg0 kk ds := by
 unfold Zm
 split
 ·rename_i h0
  rw [Zg0, dif_pos (by omega), if_pos h0]
 ·rename_i h0
  have hp := Zoi kk ds ds.length (Nat.le_refl _)
  rw [List.take_length] at hp
  have hl := Ze4 kk ds ds.length
  rw [← hl, hp, (Z34 kk ds.length ds rfl (by omega)).2]
  rfl
theorem Znb (kk : Nat → BitVec 32) {ds : List D} (h : 2 ≤ ds.length) : Zm kk ds = Zba kk (Zm kk (ds.take (Zz ds.length))) (Zm kk (ds.drop (Zz ds.length))) := by
 rw [Zpx, Znc kk h, Zpx, Zpx]
end Go.Flat
end
section
namespace Go.Flat
open Go.Proofs
variable {G : Glob}

theorem Zfn (kk : Nat → BitVec 32) : ∀ (f : Nat) (l : List D) (m : Nat) (kn : Bool) (dn : List D), Zd1 kk f l m kn dn = dn ++ Zd1 kk f l m kn []
  | 0, l, m, kn, dn => by unfold Zd1; cases kn <;> simp
  | f + 1, l, m, kn, dn => by
    unfold Zd1
    split
    · cases kn <;> simp
    · dsimp only
      split
      · rw [Zfn kk f _ _ _ (dn ++ _), Zfn kk f _ _ _ ([] ++ _)]; simp
      · rw [Zfn kk f _ _ _ (dn ++ _), Zfn kk f _ _ _ ([] ++ _)]; simp
theorem Zjb (kk : Nat → BitVec 32) : ∀ (f g : Nat) (l : List D) (m : Nat) (kn : Bool) (dn : List D), 1 ≤ m → l.length ≤ f + 1 → l.length ≤ g + 1 → Zd1 kk f l m kn dn = Zd1 kk g l m kn dn
  | 0, 0, _, _, _, _, _, _, _ => rfl
  | 0, g + 1, l, m, kn, dn, hm, h, _ => by conv => rhs; unfold Zd1
                                           rw [if_pos (by omega)]; rfl
  | f + 1, 0, l, m, kn, dn, hm, _, h => by conv => lhs; unfold Zd1
                                           rw [if_pos (by omega)]; rfl
  | f + 1, g + 1, l, m, kn, dn, hm, h1, h2 => by
    unfold Zd1
    split
    · rfl
    · rename_i hl
      obtain ⟨s1, s2⟩ := Zb1 (n := l.length) (by omega)
      unfold Zz at s1 s2
      dsimp only
      split
      · exact Zjb kk f g _ _ _ _ hm (by simp; omega) (by simp; omega)
      · exact Zjb kk f g _ _ _ _ (by omega) (by simp; omega) (by simp; omega)
def Zda (kk : Nat → BitVec 32) (l : List D) (m : Nat) : List D := (Zd1 kk l.length l m true []).reverse
theorem Z2u (kk : Nat → BitVec 32) (hG : G 0 = some (Zaa w32 64 kk)) (hG1 : G 2 = some (Zaa u8N 64 dbF)) (ds : List D) (c i : Nat) {n q : Nat} (hl : ds.length = n) (hn : n ≤ 1000000) (hc : n ≤ c) (h1 : 1 ≤ i) (hi : i ≤ n) (hq : (Zda kk ds i).length = q) :
  Zac Tryd.prog G 13 [slv 0 0 n c, Iv (i : Nat)] [dsR ds] (.tuple #[slv 1 0 q q, Iv 0]) [dsR ds, dsB (Zda kk ds i)] := by
 subst hl; subst hq
 have h := Zop (G := G) kk hG hG1 ds c i hn hc h1 hi
 dsimp only at h
 rw [Zup] at h
 unfold Zda
 rw [List.length_reverse]
 exact h
theorem Znq {n t : Nat} (h : 2 ≤ n) (ht : n ≤ 2 ^ (t + 1)) : Zz n ≤ 2 ^ t ∧ n - Zz n ≤ 2 ^ t ∧ n ≤ 2 * Zz n := by
 have e := Zi3 h
 have h1 := Nat.log2_self_le (n := n - 1) (by omega)
 have h2 := Nat.lt_log2_self (n := n - 1)
 rw [Nat.pow_succ, ← e] at h2
 rw [← e] at h1
 have h3 : Zz n ≤ 2 ^ t := by
  rw [e]
  refine Nat.pow_le_pow_right (by decide) ?_
  have : 2 ^ (n - 1).log2 < 2 ^ (t + 1) := by rw [← e]; omega
  have := (Nat.pow_lt_pow_iff_right (a := 2) (by decide)).1 this
  omega
 omega
theorem Zj9 (kk : Nat → BitVec 32) : ∀ (t : Nat) (l : List D) (i : Nat), l.length ≤ 2 ^ t → (Zcf kk l i).length ≤ t
 | 0, l, i, h => by rw [Zmz kk i (by simpa using h)]; exact Nat.le_refl _
 | t + 1, l, i, h => by
  by_cases h2 : 2 ≤ l.length
  ·obtain ⟨k1, k2, _⟩ := Znq h2 h
   by_cases hi : i < Zz l.length
   ·rw [Zt1 kk h2 hi, List.length_append]
    have := Zj9 kk t (l.take (Zz l.length)) i (by simp; omega)
    simp at this ⊢; omega
   ·rw [Zt0 kk h2 (by omega), List.length_append]
    have := Zj9 kk t (l.drop (Zz l.length)) (i - Zz l.length) (by simp; omega)
    simp at this ⊢; omega
  ·rw [Zmz kk i (by omega)]; simp
theorem Zj6 (kk : Nat → BitVec 32) : ∀ (f t : Nat) (l : List D) (m : Nat) (kn : Bool), 1 ≤ m → l.length ≤ f + 1 → l.length ≤ 2 ^ t → (Zd1 kk f l m kn []).length ≤ t + 1
  | 0, t, l, m, kn, _, _, _ => by unfold Zd1; cases kn <;> simp
  | f + 1, 0, l, m, kn, hm, _, h => by
    unfold Zd1
    rw [if_pos (by simp at h; omega)]
    cases kn <;> simp
  | f + 1, t + 1, l, m, kn, hm, hf, h => by
    unfold Zd1
    split
    · cases kn <;> simp
    · rename_i hl
      obtain ⟨k1, k2, _⟩ := Znq (n := l.length) (by omega) h
      obtain ⟨s1, s2⟩ := Zb1 (n := l.length) (by omega)
      dsimp only
      rw [show (Zct (l.length : Int)).toNat = Zz l.length from rfl]
      split
      · rw [Zfn, List.length_append]
        have := Zj6 kk f t (l.take (Zz l.length)) m kn hm (by simp; omega) (by simp; omega)
        simp; omega
      · rw [Zfn, List.length_append]
        have := Zj6 kk f t (l.drop (Zz l.length)) (m - Zz l.length) false (by omega) (by simp; omega) (by simp; omega)
        simp; omega
theorem Ztn (kk : Nat → BitVec 32) (t : Nat) (l : List D) (m : Nat) (hm : 1 ≤ m) (h : l.length ≤ 2 ^ t) : (Zda kk l m).length ≤ t + 1 := by
 unfold Zda
 rw [List.length_reverse]
 exact Zj6 kk _ t l m true hm (by omega) h
end Go.Flat
end
