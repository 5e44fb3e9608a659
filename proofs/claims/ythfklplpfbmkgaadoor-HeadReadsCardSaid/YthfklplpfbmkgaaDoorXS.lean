/- The sum, reckoned: a list of whole numbers that the kernel reckons, and that it is the sum. -/
import Derived.Test.YthfklplpfbmkgaaDoorSha
set_option linter.unusedVariables false
set_option linter.unusedSimpArgs false
set_option maxRecDepth 20000
namespace Go.Flat
def force {α : Type} (n : Nat) (k : Nat → α) : α := match n with | 0 => k 0 | m + 1 => k (m + 1)
theorem force_eq {α : Type} (n : Nat) (k : Nat → α) : force n k = k n := by cases n <;> rfl
def rotN (a n : Nat) : Nat := Nat.lor (Nat.mod (Nat.shiftLeft a n) 4294967296) (Nat.shiftRight a (Nat.sub 32 n))
def S3 (a p q z : Nat) : Nat := Nat.xor (Nat.xor (rotN a p) (rotN a q)) z
def pN (h e f g k w : Nat) : Nat := Nat.mod (Nat.add (Nat.mod (Nat.add (Nat.mod (Nat.add (Nat.mod (Nat.add h (S3 e 26 21 (rotN e 7))) 4294967296) (Nat.xor g (Nat.land e (Nat.xor f g)))) 4294967296) k) 4294967296) w) 4294967296
def qN (a b c : Nat) : Nat := Nat.mod (Nat.add (S3 a 30 19 (rotN a 10)) (Nat.xor (Nat.xor (Nat.land a b) (Nat.land a c)) (Nat.land b c))) 4294967296
def wN (w0 w1 w9 w14 : Nat) : Nat := Nat.mod (Nat.add w0 (Nat.mod (Nat.add (Nat.mod (Nat.add w9 (S3 w1 25 14 (Nat.shiftRight w1 3))) 4294967296) (S3 w14 15 13 (Nat.shiftRight w14 10))) 4294967296)) 4294967296
def goN : List Nat → List Nat → Nat → Nat → Nat → Nat → Nat → Nat → Nat → Nat → List Nat
  | [], _, a, b, c, d, e, f, g, h => [a, b, c, d, e, f, g, h]
  | k :: ks, w, a, b, c, d, e, f, g, h =>
    force (pN h e f g k (w.getD 0 0)) fun p => force (Nat.mod (Nat.add p (qN a b c)) 4294967296) fun x => force (Nat.mod (Nat.add d p) 4294967296) fun y =>
      force (wN (w.getD 0 0) (w.getD 1 0) (w.getD 9 0) (w.getD 14 0)) fun z => goN ks (w.drop 1 ++ [z]) x a b c y e f g
theorem rot_nat (x : BitVec 32) (n : Nat) : (rot x n).toNat = rotN x.toNat n := by
  unfold rot rotN
  rw [BitVec.toNat_or, BitVec.toNat_shiftLeft, BitVec.toNat_ushiftRight]; rfl
theorem S3_nat (x z : BitVec 32) (a b : Int) : (three3 x a b z).toNat = S3 x.toNat ((0 - a) % 32).toNat ((0 - b) % 32).toNat z.toNat := by
  unfold three3 S3
  rw [BitVec.toNat_xor, BitVec.toNat_xor, rot_nat, rot_nat]; rfl
theorem p_nat (k : BitVec 32) (v w : Nat → BitVec 32) (t : Nat) : (sha3p k v w t).toNat = pN (v 7).toNat (v 4).toNat (v 5).toNat (v 6).toNat k.toNat (w (t % 16)).toNat := by
  unfold sha3p pN
  rw [BitVec.toNat_add, BitVec.toNat_add, BitVec.toNat_add, BitVec.toNat_add, S3_nat, rot_nat, BitVec.toNat_xor, BitVec.toNat_and, BitVec.toNat_xor]; rfl
theorem q_nat (v : Nat → BitVec 32) : (sha3q v).toNat = qN (v 0).toNat (v 1).toNat (v 2).toNat := by
  unfold sha3q qN
  rw [BitVec.toNat_add, S3_nat, rot_nat, BitVec.toNat_xor, BitVec.toNat_xor, BitVec.toNat_and, BitVec.toNat_and, BitVec.toNat_and]; rfl
theorem w_nat (w0 w1 w9 w14 : BitVec 32) : (w0 + (w9 + three3 w1 7 18 (w1 >>> 3) + three3 w14 17 19 (w14 >>> 10))).toNat = wN w0.toNat w1.toNat w9.toNat w14.toNat := by
  unfold wN
  rw [BitVec.toNat_add, BitVec.toNat_add, BitVec.toNat_add, S3_nat, S3_nat, BitVec.toNat_ushiftRight, BitVec.toNat_ushiftRight]; rfl
def fwT (kk : Nat → BitVec 32) : Nat → Nat → (Nat → BitVec 32) × (Nat → BitVec 32) → (Nat → BitVec 32) × (Nat → BitVec 32)
  | 0, _, p => p
  | n + 1, t, p => fwT kk n (t + 1) (sha3v (sha3p (kk t) p.1 p.2 t) (sha3q p.1) p.1, sha3w p.2 t)
theorem fwT_shaT (kk v w : Nat → BitVec 32) : ∀ n t, fwT kk n t (shaT kk v w t) = shaT kk v w (t + n)
  | 0, t => rfl
  | n + 1, t => by
    have := fwT_shaT kk v w n (t + 1)
    rw [show t + (n + 1) = t + 1 + n by omega, ← this]; rfl
theorem goN_ok (kk : Nat → BitVec 32) : ∀ (ks : List Nat) (t : Nat) (W : List Nat) (v w : Nat → BitVec 32), (∀ i, i < ks.length → (kk (t + i)).toNat = ks.getD i 0) → W.length = 16 → (∀ j, j < 16 → (w ((t + j) % 16)).toNat = W.getD j 0) →
    ∀ i, i < 8 → ((fwT kk ks.length t (v, w)).1 i).toNat = (goN ks W (v 0).toNat (v 1).toNat (v 2).toNat (v 3).toNat (v 4).toNat (v 5).toNat (v 6).toNat (v 7).toNat).getD i 0
  | [], t, W, v, w, hk, hl, hw, i, hi => by
    show (v i).toNat = _
    unfold goN
    match i, hi with
    | 0, _ | 1, _ | 2, _ | 3, _ | 4, _ | 5, _ | 6, _ | 7, _ => rfl
  | k :: ks, t, W, v, w, hk, hl, hw, i, hi => by
    have h0 := hw 0 (by omega)
    have h1 := hw 1 (by omega)
    have h9 := hw 9 (by omega)
    have h14 := hw 14 (by omega)
    have hk0 : (kk t).toNat = k := hk 0 (by simp)
    rw [Nat.add_zero] at h0
    unfold goN
    rw [force_eq, force_eq, force_eq, force_eq]
    show ((fwT kk ks.length (t + 1) (sha3v (sha3p (kk t) v w t) (sha3q v) v, sha3w w t)).1 i).toNat = _
    have hp : (sha3p (kk t) v w t).toNat = pN (v 7).toNat (v 4).toNat (v 5).toNat (v 6).toNat k (W.getD 0 0) := by rw [p_nat, hk0, h0]
    have hz : (sha3w w t (t % 16)).toNat = wN (W.getD 0 0) (W.getD 1 0) (W.getD 9 0) (W.getD 14 0) := by
      unfold sha3w updN
      rw [if_pos rfl, w_nat, h0, h1, h9, h14]
    have ih := goN_ok kk ks (t + 1) (W.drop 1 ++ [wN (W.getD 0 0) (W.getD 1 0) (W.getD 9 0) (W.getD 14 0)]) (sha3v (sha3p (kk t) v w t) (sha3q v) v) (sha3w w t)
      (fun i hi => by have := hk (i + 1) (by simp; omega); rw [show t + 1 + i = t + (i + 1) by omega]; exact this) (by simp [hl]) (fun j hj => ?_) i hi
    · rw [ih]
      have e0 : (sha3v (sha3p (kk t) v w t) (sha3q v) v 0).toNat = Nat.mod (Nat.add (pN (v 7).toNat (v 4).toNat (v 5).toNat (v 6).toNat k (W.getD 0 0)) (qN (v 0).toNat (v 1).toNat (v 2).toNat)) 4294967296 := by
        show (sha3p (kk t) v w t + sha3q v).toNat = _
        rw [BitVec.toNat_add, hp, q_nat]; rfl
      have e4 : (sha3v (sha3p (kk t) v w t) (sha3q v) v 4).toNat = Nat.mod (Nat.add (v 3).toNat (pN (v 7).toNat (v 4).toNat (v 5).toNat (v 6).toNat k (W.getD 0 0))) 4294967296 := by
        show (v 3 + sha3p (kk t) v w t).toNat = _
        rw [BitVec.toNat_add, hp]; rfl
      rw [e0, e4]; rfl
    · by_cases hj15 : j = 15
      · subst hj15
        rw [show (t + 1 + 15) % 16 = t % 16 by omega, hz]
        generalize wN (W.getD 0 0) (W.getD 1 0) (W.getD 9 0) (W.getD 14 0) = z
        rw [List.getD_eq_getElem?_getD, List.getElem?_append_right (by simp [hl])]
        simp [hl]
      · have hne : ¬ (t + 1 + j) % 16 = t % 16 := by omega
        have := hw (j + 1) (by omega)
        rw [show t + (j + 1) = t + 1 + j by omega] at this
        unfold sha3w updN
        rw [if_neg hne, this, List.getD_eq_getElem?_getD, List.getD_eq_getElem?_getD, List.getElem?_append_left (by simp [hl]; omega), List.getElem?_drop, Nat.add_comm]
def wordB (b : Nat → BitVec 8) (k : Nat) : Nat → BitVec 32
  | 0 => 0
  | r + 1 => wordB b k r <<< 8 ||| (b (4 * k + r)).setWidth 32
theorem inBs_word (b : Nat → BitVec 8) (k : Nat) : ∀ n, inBs b n k = wordB b k (min (n - 4 * k) 4)
  | 0 => by rw [Nat.zero_sub]; rfl
  | n + 1 => by
    have ih := inBs_word b k n
    show updN (inBs b n) (n / 4) (inBs b n (n / 4) <<< 8 ||| (b n).setWidth 32) k = _
    unfold updN
    by_cases hk : k = n / 4
    · rw [if_pos hk, ← hk, ih, show min (n + 1 - 4 * k) 4 = min (n - 4 * k) 4 + 1 by omega]
      show _ = wordB b k (min (n - 4 * k) 4) <<< 8 ||| (b (4 * k + min (n - 4 * k) 4)).setWidth 32
      rw [show 4 * k + min (n - 4 * k) 4 = n by omega]
    · rw [if_neg hk, ih]; congr 1; omega
def wordN (a b c d : Nat) : Nat := Nat.lor (Nat.mod (Nat.shiftLeft (Nat.lor (Nat.mod (Nat.shiftLeft (Nat.lor (Nat.mod (Nat.shiftLeft (Nat.lor (Nat.mod (Nat.shiftLeft 0 8) 4294967296) a) 8) 4294967296) b) 8) 4294967296) c) 8) 4294967296) d
theorem set32 (x : BitVec 8) : (x.setWidth 32).toNat = x.toNat := by
  rw [BitVec.toNat_setWidth]; exact Nat.mod_eq_of_lt (by have := x.isLt; omega)
theorem wordB_nat (b : Nat → BitVec 8) (k : Nat) : (wordB b k 4).toNat = wordN (b (4 * k)).toNat (b (4 * k + 1)).toNat (b (4 * k + 2)).toNat (b (4 * k + 3)).toNat := by
  unfold wordB wordB wordB wordB wordB wordN
  rw [BitVec.toNat_or, BitVec.toNat_shiftLeft, BitVec.toNat_or, BitVec.toNat_shiftLeft, BitVec.toNat_or, BitVec.toNat_shiftLeft, BitVec.toNat_or, BitVec.toNat_shiftLeft, set32, set32, set32, set32]; rfl
def wordsN : Nat → List Nat → List Nat
  | 0, _ => []
  | n + 1, l => force (wordN (l.getD 0 0) (l.getD 1 0) (l.getD 2 0) (l.getD 3 0)) fun x => x :: wordsN n (l.drop 4)
theorem wordsN_len : ∀ n l, (wordsN n l).length = n
  | 0, l => rfl
  | n + 1, l => by unfold wordsN; rw [force_eq]; simp [wordsN_len n]
theorem getD_drop' (l : List Nat) (i k : Nat) : (l.drop k).getD i 0 = l.getD (k + i) 0 := by
  rw [List.getD_eq_getElem?_getD, List.getD_eq_getElem?_getD, List.getElem?_drop]
theorem wordsN_get : ∀ (n : Nat) (l : List Nat) (j : Nat), j < n → (wordsN n l).getD j 0 = wordN (l.getD (4 * j) 0) (l.getD (4 * j + 1) 0) (l.getD (4 * j + 2) 0) (l.getD (4 * j + 3) 0)
  | n + 1, l, 0, _ => by unfold wordsN; rw [force_eq]; rfl
  | n + 1, l, j + 1, h => by
    unfold wordsN; rw [force_eq, List.getD_cons_succ, wordsN_get n (l.drop 4) j (by omega)]
    simp only [getD_drop']
    congr 2 <;> omega
def addN : List Nat → List Nat → List Nat
  | a :: us, b :: vs => force (Nat.mod (Nat.add a b) 4294967296) fun x => x :: addN us vs
  | _, _ => []
def absL (ks : List Nat) : Nat → List Nat → List Nat → List Nat
  | 0, v, _ => v
  | n + 1, v, l => absL ks n (addN v (goN ks (wordsN 16 l) (v.getD 0 0) (v.getD 1 0) (v.getD 2 0) (v.getD 3 0) (v.getD 4 0) (v.getD 5 0) (v.getD 6 0) (v.getD 7 0))) (l.drop 64)
theorem goN_len : ∀ (ks w : List Nat) (a b c d e f g h : Nat), (goN ks w a b c d e f g h).length = 8
  | [], _, _, _, _, _, _, _, _, _ => rfl
  | k :: ks, w, a, b, c, d, e, f, g, h => by unfold goN; rw [force_eq, force_eq, force_eq, force_eq]; exact goN_len ks _ _ _ _ _ _ _ _ _
theorem addN_get : ∀ (us vs : List Nat) (i : Nat), i < us.length → i < vs.length → (addN us vs).getD i 0 = (us.getD i 0 + vs.getD i 0) % 4294967296
  | a :: us, b :: vs, 0, _, _ => by unfold addN; rw [force_eq]; rfl
  | a :: us, b :: vs, i + 1, h1, h2 => by unfold addN; rw [force_eq, List.getD_cons_succ, addN_get us vs i (by simpa using h1) (by simpa using h2)]; rfl
theorem addN_len : ∀ (us vs : List Nat), us.length = vs.length → (addN us vs).length = us.length
  | [], [], _ => rfl
  | a :: us, b :: vs, h => by unfold addN; rw [force_eq]; simp [addN_len us vs (by simpa using h)]
theorem addV_get (v V : Nat → BitVec 32) : ∀ n i, addV v V n i = if i < n then v i + V i else v i
  | 0, i => by simp [addV]
  | n + 1, i => by
    show updN (addV v V n) n (addV v V n n + V n) i = _
    unfold updN
    by_cases h : i = n
    · subst h; rw [if_pos rfl, if_pos (by omega), addV_get v V i i, if_neg (by omega)]
    · rw [if_neg h, addV_get v V n i]
      by_cases h2 : i < n
      · rw [if_pos h2, if_pos (by omega)]
      · rw [if_neg h2, if_neg (by omega)]
theorem absL_ok (kk : Nat → BitVec 32) (ks : List Nat) (hl : ks.length = 64) (hk : ∀ i, i < 64 → (kk i).toNat = ks.getD i 0) (M : Bs) : ∀ (n j : Nat) (v : List Nat) (l : List Nat) (V : Nat → BitVec 32), v.length = 8 → (∀ i, i < 8 → (V i).toNat = v.getD i 0) → (∀ i, l.getD i 0 = (M.getD (64 * j + i) 0).toNat) → V = absN kk shaI M j →
    ∀ i, i < 8 → (absN kk shaI M (j + n) i).toNat = (absL ks n v l).getD i 0
  | 0, j, v, l, V, h8, hv, hM, hV, i, hi => by
    subst hV; exact hv i hi
  | n + 1, j, v, l, V, h8, hv, hM, hV, i, hi => by
    have hg := fun i hi => goN_ok kk ks 0 (wordsN 16 l) V (inBs (blk64 M j) 64) (fun i hi => by rw [Nat.zero_add]; exact hk i (by omega)) (wordsN_len 16 l) (fun q hq => by
      rw [Nat.zero_add, Nat.mod_eq_of_lt hq, inBs_word, show min (64 - 4 * q) 4 = 4 by omega, wordB_nat, wordsN_get 16 l q hq]
      unfold blk64
      rw [hM, hM, hM, hM]) i hi
    rw [hl, show fwT kk 64 0 (V, inBs (blk64 M j) 64) = shaT kk V (inBs (blk64 M j) 64) 64 from fwT_shaT kk V _ 64 0] at hg
    have hL := goN_len ks (wordsN 16 l) (v.getD 0 0) (v.getD 1 0) (v.getD 2 0) (v.getD 3 0) (v.getD 4 0) (v.getD 5 0) (v.getD 6 0) (v.getD 7 0)
    rw [show j + (n + 1) = j + 1 + n by omega]
    refine absL_ok kk ks hl hk M n (j + 1) _ _ (rndV kk V (blk64 M j)) (by rw [addN_len _ _ (by rw [h8, hL]), h8]) (fun i hi => ?_) (fun i => ?_) (by subst hV; rfl) i hi
    · rw [addN_get _ _ _ (by omega) (by omega)]
      have := hg i hi
      rw [hv 0 (by omega), hv 1 (by omega), hv 2 (by omega), hv 3 (by omega), hv 4 (by omega), hv 5 (by omega), hv 6 (by omega), hv 7 (by omega)] at this
      unfold rndV
      rw [addV_get, if_pos hi, BitVec.toNat_add, hv i hi, this]
    · rw [getD_drop', hM]; congr 2; omega
def bytesN : List Nat → List Nat
  | [] => []
  | a :: l => Nat.mod (Nat.shiftRight a 24) 256 :: Nat.mod (Nat.shiftRight a 16) 256 :: Nat.mod (Nat.shiftRight a 8) 256 :: Nat.mod a 256 :: bytesN l
def iniL : List Nat := [0x6a09e667, 0xbb67ae85, 0x3c6ef372, 0xa54ff53a, 0x510e527f, 0x9b05688c, 0x1f83d9ab, 0x5be0cd19]
def shaL (ks : List Nat) (n : Nat) (l : List Nat) : List Nat := bytesN (absL ks n iniL l)
theorem shaDs_get (v : Nat → BitVec 32) : ∀ n i, i < n → shaDs v n i = shaD v i
  | n + 1, i, h => by
    show updN (shaDs v n) n (shaD v n) i = _
    unfold updN
    by_cases e : i = n
    · rw [if_pos e, e]
    · rw [if_neg e, shaDs_get v n i (by omega)]
theorem absL_len (ks : List Nat) : ∀ (n : Nat) (v l : List Nat), v.length = 8 → (absL ks n v l).length = 8
  | 0, v, l, h => h
  | n + 1, v, l, h => absL_len ks n _ _ (by rw [addN_len _ _ (by rw [goN_len, h]), h])
theorem bytesN_get : ∀ (l : List Nat) (i : Nat), i < 4 * l.length → (bytesN l).getD i 0 = Nat.mod (Nat.shiftRight (l.getD (i / 4) 0) (24 - i % 4 * 8)) 256
  | [], i, h => by simp at h
  | a :: l, 0, h => rfl
  | a :: l, 1, h => rfl
  | a :: l, 2, h => rfl
  | a :: l, 3, h => rfl
  | a :: l, i + 4, h => by
    show (bytesN l).getD i 0 = _
    rw [bytesN_get l i (by simp at h; omega), show (i + 4) / 4 = i / 4 + 1 by omega, show (i + 4) % 4 = i % 4 by omega]; rfl
theorem bytesN_len : ∀ l, (bytesN l).length = 4 * l.length
  | [] => rfl
  | a :: l => by simp [bytesN, bytesN_len l]; omega
theorem dg_eval (kk : Nat → BitVec 32) (ks : List Nat) (hl : ks.length = 64) (hk : ∀ i, i < 64 → (kk i).toNat = ks.getD i 0) (M : Bs) {n : Nat} {ms out : List Nat} (hm : (M ++ padM M 8).map BitVec.toNat = ms) (hn : (M ++ padM M 8).length / 64 = n) (h : shaL ks n ms = out) : dgL (shaOf kk M) = out.map (BitVec.ofNat 8) := by
  have hv : ∀ i, i < 8 → (absM kk (M ++ padM M 8) i).toNat = (absL ks n iniL ms).getD i 0 := by
    intro i hi
    have := absL_ok kk ks hl hk (M ++ padM M 8) n 0 iniL ms shaI rfl (fun i hi => by
      match i, hi with
      | 0, _ | 1, _ | 2, _ | 3, _ | 4, _ | 5, _ | 6, _ | 7, _ => rfl) (fun i => by
      rw [← hm, Nat.mul_zero, Nat.zero_add, List.getD_eq_getElem?_getD, List.getD_eq_getElem?_getD, List.getElem?_map]
      cases (M ++ padM M 8)[i]? <;> rfl) rfl i hi
    rw [Nat.zero_add] at this
    unfold absM
    rw [hn]; exact this
  subst h
  apply List.ext_getElem?
  intro i
  rcases Nat.lt_or_ge i 32 with hi | hi
  · have hlen : (absL ks n iniL ms).length = 8 := absL_len ks n _ _ rfl
    have hb := bytesN_get (absL ks n iniL ms) i (by rw [hlen]; omega)
    have hbl : i < (bytesN (absL ks n iniL ms)).length := by rw [bytesN_len, hlen]; omega
    unfold dgL shaL
    rw [List.getElem?_map, List.getElem?_map, List.getElem?_range hi, List.getElem?_eq_getElem hbl]
    simp only [Option.map_some]
    rw [List.getD_eq_getElem?_getD, List.getElem?_eq_getElem hbl] at hb
    simp only [Option.getD_some] at hb
    rw [hb]
    congr 1
    show shaDs _ 32 i = _
    rw [shaDs_get _ 32 i hi]
    unfold shaD
    apply BitVec.eq_of_toNat_eq
    rw [BitVec.toNat_setWidth, BitVec.toNat_ushiftRight, hv (i / 4) (by omega), BitVec.toNat_ofNat]
    have e : ((24 : Int) - (i : Int) % 4 * 8).toNat = 24 - i % 4 * 8 := by omega
    rw [e]
    show _ % 256 = (_ % 256) % 256
    rw [Nat.mod_mod]; rfl
  · rw [List.getElem?_eq_none (by simp [dgL]; omega), List.getElem?_eq_none (by simp [shaL, bytesN_len, absL_len ks n iniL ms rfl]; omega)]
def shaK : List Nat := [1116352408, 1899447441, 3049323471, 3921009573, 961987163, 1508970993, 2453635748, 2870763221, 3624381080, 310598401, 607225278, 1426881987, 1925078388, 2162078206, 2614888103, 3248222580, 3835390401, 4022224774, 264347078, 604807628, 770255983, 1249150122, 1555081692, 1996064986, 2554220882, 2821834349, 2952996808, 3210313671, 3336571891, 3584528711, 113926993, 338241895, 666307205, 773529912, 1294757372, 1396182291, 1695183700, 1986661051, 2177026350, 2456956037, 2730485921, 2820302411, 3259730800, 3345764771, 3516065817, 3600352804, 4094571909, 275423344, 430227734, 506948616, 659060556, 883997877, 958139571, 1322822218, 1537002063, 1747873779, 1955562222, 2024104815, 2227730452, 2361852424, 2428436474, 2756734187, 3204031479, 3329325298]
end Go.Flat
