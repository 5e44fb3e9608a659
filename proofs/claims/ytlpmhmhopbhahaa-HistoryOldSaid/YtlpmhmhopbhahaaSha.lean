/- Walks of the sum and of the tree's functions: what each computes, for every input within the bounds that each theorem names. -/
import Derived.Test.YtlpmhmhopbhahaaFlatC
import Derived.Test.YtlpmhmhopbhahaaProg
section
set_option maxRecDepth 20000
namespace Go.Flat
open Go.Proofs
variable {G : Glob}
def rot (x : BitVec 32) (n : Nat) : BitVec 32 := x <<< n ||| x >>> (32 - n)

theorem and31 (k : Int) : (BitVec.ofInt 64 k &&& BitVec.ofInt 64 31).toNat = (k % 32).toNat := by
  have h31 : (BitVec.ofInt 64 31).toNat = 2 ^ 5 - 1 := rfl
  rw [BitVec.toNat_and, h31, Nat.and_two_pow_sub_one_eq_mod, BitVec.toNat_ofInt]
  omega
def three3 (x : BitVec 32) (a b : Int) (z : BitVec 32) : BitVec 32 := rot x ((0 - a) % 32).toNat ^^^ rot x ((0 - b) % 32).toNat ^^^ z
end Go.Flat
end
section
set_option linter.unusedVariables false
set_option linter.unusedSimpArgs false
set_option maxRecDepth 20000
namespace Go.Flat
open Go.Proofs
variable {G : Glob}
/-- A word with one more byte behind. -/
def inB (w : Nat → BitVec 32) (i : Nat) (x : BitVec 8) : Nat → BitVec 32 := updN w (i / 4) (w (i / 4) <<< 8 ||| x.setWidth 32)
def inBs (b : Nat → BitVec 8) : Nat → Nat → BitVec 32
  | 0 => fun _ => 0
  | i + 1 => inB (inBs b i) i (b i)
def sha3p (k : BitVec 32) (v w : Nat → BitVec 32) (t : Nat) : BitVec 32 := v 7 + three3 (v 4) 6 11 (rot (v 4) ((-25 : Int) % 32).toNat) + (v 6 ^^^ (v 4 &&& (v 5 ^^^ v 6))) + k + w (t % 16)
def sha3q (v : Nat → BitVec 32) : BitVec 32 := three3 (v 0) 2 13 (rot (v 0) ((-22 : Int) % 32).toNat) + ((v 0 &&& v 1) ^^^ (v 0 &&& v 2) ^^^ (v 1 &&& v 2))
def sha3v (p q : BitVec 32) (v : Nat → BitVec 32) : Nat → BitVec 32 := fun k => if k = 0 then p + q else if k = 4 then v 3 + p else v (k - 1)
def sha3w (w : Nat → BitVec 32) (t : Nat) : Nat → BitVec 32 := updN w (t % 16) (w (t % 16) + (w ((t + 9) % 16) + three3 (w ((t + 1) % 16)) 7 18 (w ((t + 1) % 16) >>> 3) + three3 (w ((t + 14) % 16)) 17 19 (w ((t + 14) % 16) >>> 10)))
def shaT (kk : Nat → BitVec 32) (v w : Nat → BitVec 32) : Nat → (Nat → BitVec 32) × (Nat → BitVec 32)
  | 0 => (v, w)
  | t + 1 => let p := shaT kk v w t; (sha3v (sha3p (kk t) p.1 p.2 t) (sha3q p.1) p.1, sha3w p.2 t)
def addV (v V : Nat → BitVec 32) : Nat → Nat → BitVec 32
  | 0 => v
  | i + 1 => updN (addV v V i) i (addV v V i i + V i)
def rndV (kk : Nat → BitVec 32) (v : Nat → BitVec 32) (b : Nat → BitVec 8) : Nat → BitVec 32 := addV v (shaT kk v (inBs b 64) 64).1 8

abbrev pt (b o : Nat) : Value := .pointer (some ⟨b, o, none⟩)
abbrev sl (b o n c : Nat) : Value := .slice (some ⟨b, o, none⟩) n c
/-- The state's block. -/
def stB (v : Nat → BitVec 32) (r n : Value) : Blk := { cells := rowE w32 8 v ++ [r, n], sz := 10, wr := true, fix := true, mv := false, pur := false }
def byB (n : Nat) (b : Nat → BitVec 8) : Blk := { cells := rowE w8 n b, sz := 1, wr := false, fix := false, mv := true, pur := true }
def wB (w : Nat → BitVec 32) : Blk := { cells := rowE w32 16 w, sz := 16, wr := true, fix := true, mv := false, pur := true }
def vB (v : Nat → BitVec 32) : Blk := { cells := rowE w32 8 v, sz := 8, wr := true, fix := true, mv := false, pur := true }

end Go.Flat
end
section
set_option linter.unusedVariables false
set_option maxRecDepth 20000
namespace Go.Flat
open Go.Proofs
variable {G : Glob}
abbrev Bs := List (BitVec 8)
def bl (s : ByteArray) : Bs := s.data.toList.map UInt8.toBitVec
theorem bytesV_bl (s : ByteArray) : bytesV s = (bl s).map w8 := by
  unfold bytesV bl
  rw [List.map_map]; rfl
theorem bl_len (s : ByteArray) : (bl s).length = s.size := by simp [bl]
def rowB (l : Bs) : Blk := { cells := l.map w8, sz := 1, wr := true, fix := false, mv := true, pur := true }
def blk64 (l : Bs) (j : Nat) : Nat → BitVec 8 := fun i => l.getD (64 * j + i) 0
def absN (kk v : Nat → BitVec 32) (l : Bs) : Nat → Nat → BitVec 32
  | 0 => v
  | j + 1 => rndV kk (absN kk v l j) (blk64 l j)
theorem take64 {l : Bs} {j : Nat} (h : 64 * j + 64 ≤ l.length) : ((l.map w8).drop (64 * j)).take 64 = rowE w8 64 (blk64 l j) := by
  apply List.ext_getElem?
  intro i
  rcases Nat.lt_or_ge i 64 with hi | hi
  · rw [rowE_get hi, List.getElem?_take, if_pos hi, List.getElem?_drop, List.getElem?_map]
    have : 64 * j + i < l.length := by omega
    simp [blk64, this]
  · rw [List.getElem?_eq_none (by simp; omega), List.getElem?_eq_none (by rw [rowE_len]; omega)]

theorem bytesV_pure (s : ByteArray) : (bytesV s).all pureC = true := by rw [bytesV_bl]; simp only [List.all_map, List.all_eq_true]; intros; rfl
theorem mapW_pure (l : Bs) : (l.map w8).all pureC = true := by simp only [List.all_map, List.all_eq_true]; intros; rfl
end Go.Flat
end
section
set_option linter.unusedVariables false
set_option maxRecDepth 20000
namespace Go.Flat
open Go.Proofs
variable {G : Glob}
def shaI : Nat → BitVec 32
  | 0 => 0x6a09e667 | 1 => 0xbb67ae85 | 2 => 0x3c6ef372 | 3 => 0xa54ff53a | 4 => 0x510e527f | 5 => 0x9b05688c | 6 => 0x1f83d9ab | _ => 0x5be0cd19
abbrev nilS : Value := .slice none 0 0
def stCells (v : Nat → BitVec 32) (r n : Value) : List Value := rowE w32 8 v ++ [r, n]
def tl (M : Bs) : Bs := M.drop (64 * (M.length / 64))
def absM (kk : Nat → BitVec 32) (M : Bs) : Nat → BitVec 32 := absN kk shaI M (M.length / 64)
def nextPre (M : Bs) (s : ByteArray) : Bs := (tl M ++ bl s).take (64 * ((tl M ++ bl s).length / 64))
def stM (kk : Nat → BitVec 32) (M pre : Bs) (r : Nat) : Blk := stB (absM kk M) (slv r pre.length (tl M).length (tl M).length) (w64 (BitVec.ofNat 64 M.length))
theorem tl_len (M : Bs) : (tl M).length = M.length - 64 * (M.length / 64) := by simp [tl]
theorem blk64_app (M N : Bs) (j : Nat) : blk64 (tl M ++ N) j = blk64 (M ++ N) (M.length / 64 + j) := by
  have hk : 64 * (M.length / 64) ≤ M.length := by omega
  have : tl M ++ N = (M ++ N).drop (64 * (M.length / 64)) := by unfold tl; rw [List.drop_append_of_le_length hk]
  funext i
  unfold blk64
  rw [this]
  simp only [List.getD_eq_getElem?_getD, List.getElem?_drop]
  congr 2
  omega
theorem absN_app (kk : Nat → BitVec 32) (M N : Bs) : ∀ j, absN kk (absM kk M) (tl M ++ N) j = absN kk shaI (M ++ N) (M.length / 64 + j)
  | 0 => by
    simp only [absN, Nat.add_zero]
    unfold absM
    have : ∀ k, 64 * k ≤ M.length → absN kk shaI M k = absN kk shaI (M ++ N) k := by
      intro k
      induction k with
      | zero => intros; rfl
      | succ k ih =>
        intro h
        simp only [absN]
        rw [ih (by omega)]
        have hb : ∀ i, i < 64 → blk64 M k i = blk64 (M ++ N) k i := by
          intro i hi
          unfold blk64
          simp only [List.getD_eq_getElem?_getD]
          rw [List.getElem?_append_left (by omega)]
        have hin : ∀ t, t ≤ 64 → inBs (blk64 M k) t = inBs (blk64 (M ++ N) k) t := by
          intro t
          induction t with
          | zero => intros; rfl
          | succ t ih2 => intro ht; simp only [inBs]; rw [ih2 (by omega), hb t (by omega)]
        unfold rndV
        rw [hin 64 (by omega)]
    exact this _ (by omega)
  | j + 1 => by
    have e : M.length / 64 + (j + 1) = (M.length / 64 + j) + 1 := by omega
    rw [e]
    simp only [absN]
    rw [absN_app kk M N j, blk64_app]
end Go.Flat
end
section
set_option linter.unusedVariables false
set_option maxRecDepth 20000
namespace Go.Flat
open Go.Proofs
variable {G : Glob}
def strB (ps : List ByteArray) : Blk := { cells := ps.map Value.string, sz := 1, wr := false, fix := false, mv := true, pur := true }
def dgB (d : Nat → BitVec 8) : Blk := { cells := rowE w8 32 d, sz := 32, wr := true, fix := true, mv := false, pur := true }
def msgOf (ps : List ByteArray) : Bs := (ps.map bl).flatten
def bits8 (n : BitVec 64) (i : Nat) : BitVec 8 := (n >>> (56 - 8 * (i : Int)).toNat).setWidth 8
def pad0 (r : Nat) : Bs := (128 : BitVec 8) :: List.replicate ((119 - r) % 64) 0
def padN (r : Nat) (n : BitVec 64) : Nat → Bs
  | 0 => pad0 r
  | i + 1 => padN r n i ++ [bits8 n i]
def shaD (v : Nat → BitVec 32) (i : Nat) : BitVec 8 := (v (i / 4) >>> (24 - (i : Int) % 4 * 8).toNat).setWidth 8
def shaDs (v : Nat → BitVec 32) : Nat → Nat → BitVec 8
  | 0 => fun _ => 0
  | i + 1 => updN (shaDs v i) i (shaD v i)
def lenW (M : Bs) : BitVec 64 := BitVec.ofNat 64 M.length * BitVec.ofInt 64 8
def padM (M : Bs) (i : Nat) : Bs := padN (tl M).length (lenW M) i
def shaOf (kk : Nat → BitVec 32) (M : Bs) : Nat → BitVec 8 := shaDs (absM kk (M ++ padM M 8)) 32
theorem padN_len (r : Nat) (n : BitVec 64) : ∀ i, (padN r n i).length = 1 + (119 - r) % 64 + i
  | 0 => by simp [padN, pad0]; omega
  | i + 1 => by simp [padN, padN_len r n i]; omega
def strOf (l : Bs) : ByteArray := ⟨(l.map UInt8.ofBitVec).toArray⟩
theorem bl_strOf (l : Bs) : bl (strOf l) = l := by
  unfold bl strOf
  simp only [List.map_map]
  have : (UInt8.toBitVec ∘ UInt8.ofBitVec) = (id : BitVec 8 → BitVec 8) := rfl
  rw [this, List.map_id]
theorem strOf_size (l : Bs) : (strOf l).size = l.length := by rw [← bl_len, bl_strOf]

end Go.Flat
end
section
set_option linter.unusedVariables false
set_option maxRecDepth 20000
namespace Go.Flat
open Go.Proofs
variable {G : Glob}
abbrev dgV (d : Nat → BitVec 8) : Value := .agg (rowE w8 32 d).toArray
def dgL (d : Nat → BitVec 8) : Bs := (List.range 32).map d
theorem dgL_row (d : Nat → BitVec 8) : rowE w8 32 d = (dgL d).map w8 := by simp [rowE, dgL]
theorem dgL_len (d : Nat → BitVec 8) : (dgL d).length = 32 := by simp [dgL]
def one1 : ByteArray := ⟨#[1]⟩
def knotF (kk : Nat → BitVec 32) (a b : Nat → BitVec 8) : Nat → BitVec 8 := shaOf kk (msgOf [one1, strOf (dgL a), strOf (dgL b)])
end Go.Flat
end
section
set_option linter.unusedVariables false
set_option maxRecDepth 20000
namespace Go.Flat
open Go.Proofs
variable {G : Glob}
end Go.Flat
end
section
set_option linter.unusedVariables false
set_option maxRecDepth 20000
namespace Go.Flat
open Go.Proofs
variable {G : Glob}
def splitF (n : Int) : Int := if n < 2 then 0 else 2 ^ (bitLen (n - 1).toNat - 1)
end Go.Flat
end
section
set_option linter.unusedVariables false
set_option maxRecDepth 20000
namespace Go.Flat
open Go.Proofs
variable {G : Glob}
end Go.Flat
end
section
set_option linter.unusedVariables false
set_option maxRecDepth 20000
namespace Go.Flat
open Go.Proofs
variable {G : Glob}
abbrev D := Nat → BitVec 8
def dsC (ds : List D) : List Value := (ds.map (rowE w8 32)).flatten
def dsB (ds : List D) : Blk := { cells := dsC ds, sz := 32, wr := true, fix := false, mv := true, pur := true }
def dsR (ds : List D) : Blk := { cells := dsC ds, sz := 32, wr := false, fix := false, mv := true, pur := true }
def varB (v : Value) : Blk := { cells := [v], sz := 1, wr := true, fix := true, mv := false, pur := false }
theorem dsC_len (ds : List D) : (dsC ds).length = ds.length * 32 := by
  induction ds with
  | nil => rfl
  | cons d ds ih => simp only [dsC, List.map_cons, List.flatten_cons, List.length_append, rowE_len, List.length_cons] at ih ⊢; omega
theorem dsC_app (p q : List D) : dsC (p ++ q) = dsC p ++ dsC q := by simp [dsC]
theorem dsC_drop (p q : List D) : (dsC (p ++ q)).drop (p.length * 32) = dsC q := by
  rw [dsC_app, List.drop_append_of_le_length (by rw [dsC_len]; exact Nat.le_refl _), List.drop_of_length_le (by rw [dsC_len]; exact Nat.le_refl _), List.nil_append]
theorem dsC_take (p q : List D) : (dsC (p ++ q)).take (p.length * 32) = dsC p := by
  rw [dsC_app, List.take_append_of_le_length (by rw [dsC_len]; exact Nat.le_refl _), List.take_of_length_le (by rw [dsC_len]; exact Nat.le_refl _)]
theorem dsC_cons (d : D) (q : List D) : dsC (d :: q) = rowE w8 32 d ++ dsC q := by simp [dsC]
theorem dsC_at (p : List D) (a : D) (q : List D) : ((dsC (p ++ a :: q)).drop (p.length * 32)).take 32 = rowE w8 32 a := by
  rw [dsC_drop, dsC_cons, List.take_append_of_le_length (by rw [rowE_len]; exact Nat.le_refl _), List.take_of_length_le (by rw [rowE_len]; exact Nat.le_refl _)]
theorem dsC_at1 (p : List D) (a b : D) (q : List D) : ((dsC (p ++ a :: b :: q)).drop ((p.length + 1) * 32)).take 32 = rowE w8 32 b := by
  have := dsC_at (p ++ [a]) b q
  simpa using this
theorem rowE_pure {n : Nat} (d : D) : (rowE w8 n d).all pureC = true := rowE_all fun _ => rfl
theorem dsC_pure (ds : List D) : (dsC ds).all pureC = true := by
  induction ds with
  | nil => rfl
  | cons d ds ih => rw [dsC_cons, List.all_append, rowE_pure, ih]; rfl

end Go.Flat
end
section
set_option linter.unusedVariables false
set_option maxRecDepth 20000
namespace Go.Flat
open Go.Proofs
variable {G : Glob}
def d0 : D := fun _ => 0
def knotL (kk : Nat → BitVec 32) (P : List D) : List D := P.take (P.length - 2) ++ [knotF kk (P.getD (P.length - 2) d0) (P.getD (P.length - 1) d0)]
def knotN (kk : Nat → BitVec 32) : Nat → List D → List D
  | 0, P => P
  | n + 1, P => knotL kk (knotN kk n P)
def peakI (kk : Nat → BitVec 32) (ds : List D) : Nat → List D
  | 0 => []
  | i + 1 => knotN kk (tz (i + 1)) (peakI kk ds i ++ [ds.getD i d0])
theorem knotL_len (kk : Nat → BitVec 32) {P : List D} (h : 2 ≤ P.length) : (knotL kk P).length = P.length - 1 := by simp [knotL]; omega
theorem knotN_len (kk : Nat → BitVec 32) {P : List D} : ∀ n, n + 1 ≤ P.length → (knotN kk n P).length = P.length - n
  | 0, _ => rfl
  | n + 1, h => by
    have := knotN_len kk (P := P) n (by omega)
    simp only [knotN]
    rw [knotL_len kk (by omega), this]; omega
theorem peakI_len (kk : Nat → BitVec 32) (ds : List D) : ∀ i, (peakI kk ds i).length = lenP i
  | 0 => rfl
  | i + 1 => by
    have h1 := peakI_len kk ds i
    have h2 := (lenP_ok i).1
    simp only [peakI, lenP]
    rw [knotN_len kk _ (by simp; omega)]
    simp; omega
def rootI (kk : Nat → BitVec 32) (ds : List D) : D := if ds.length = 0 then shaOf kk [] else (knotN kk (lenP ds.length - 1) (peakI kk ds ds.length)).getD 0 d0
theorem two_last {P : List D} (h : 2 ≤ P.length) : P = P.take (P.length - 2) ++ [P.getD (P.length - 2) d0, P.getD (P.length - 1) d0] := by
  apply List.ext_getElem?
  intro i
  have hl : (P.take (P.length - 2)).length = P.length - 2 := by simp
  rcases Nat.lt_or_ge i (P.length - 2) with h1 | h1
  · rw [List.getElem?_append_left (by omega), List.getElem?_take, if_pos h1]
  · rw [List.getElem?_append_right (by omega), hl]
    rcases Nat.lt_or_ge i P.length with h2 | h2
    · rcases Nat.eq_or_lt_of_le h1 with h3 | h3
      · subst h3; simp [List.getD_eq_getElem?_getD]; rw [List.getElem?_eq_getElem (by omega)]; simp
      · have : i = P.length - 1 := by omega
        subst this
        have e : P.length - 1 - (P.length - 2) = 1 := by omega
        rw [e]
        simp [List.getD_eq_getElem?_getD]; rw [List.getElem?_eq_getElem (by omega)]; simp
    · rw [List.getElem?_eq_none h2, List.getElem?_eq_none (by simp; omega)]
end Go.Flat
end
section
set_option linter.unusedVariables false
set_option maxRecDepth 20000
namespace Go.Flat
open Go.Proofs
variable {G : Glob}
theorem dsC_atI (ds : List D) (i : Nat) (h : i < ds.length) : ((dsC ds).drop (i * 32)).take 32 = rowE w8 32 (ds.getD i d0) := by
  have e : ds = ds.take i ++ ds[i] :: ds.drop (i + 1) := by rw [← List.drop_eq_getElem_cons h, List.take_append_drop]
  have h2 := dsC_at (ds.take i) ds[i] (ds.drop (i + 1))
  rw [← e] at h2
  rw [show (ds.take i).length = i from by simp; omega] at h2
  rw [h2]
  congr 1
  simp [List.getD_eq_getElem?_getD, h]
end Go.Flat
end
section
set_option linter.unusedVariables false
set_option maxRecDepth 20000
namespace Go.Flat
open Go.Proofs
variable {G : Glob}
def sameDs (us vs : List D) : Bool := us.length == vs.length && (List.range us.length).all fun i => sameB 32 (us.getD i d0) (vs.getD i d0)
end Go.Flat
end
section
set_option linter.unusedVariables false
set_option maxRecDepth 20000
namespace Go.Flat
open Go.Proofs
variable {G : Glob}
theorem dsC_set (Q : List D) (i : Nat) (d : D) (h : i < Q.length) : splice (dsC Q) (i * 32) (rowE w8 32 d) = dsC (Q.set i d) := by
  have e : Q = Q.take i ++ Q[i] :: Q.drop (i + 1) := by rw [← List.drop_eq_getElem_cons h, List.take_append_drop]
  have hl : (Q.take i).length = i := by simp; omega
  have h1 : (dsC Q).take (i * 32) = dsC (Q.take i) := by
    have := dsC_take (Q.take i) (Q[i] :: Q.drop (i + 1))
    rw [← e, hl] at this; exact this
  have h2 : (dsC Q).drop (i * 32 + 32) = dsC (Q.drop (i + 1)) := by
    have := dsC_drop (Q.take (i + 1)) (Q.drop (i + 1))
    rw [List.take_append_drop] at this
    rw [show (Q.take (i + 1)).length = i + 1 from by simp; omega] at this
    rw [← this]; congr 1; omega
  unfold splice
  rw [h1, rowE_len, h2, List.set_eq_take_append_cons_drop, if_pos h, dsC_app, dsC_cons, List.append_assoc]
theorem storeD_dg {P : Program} {t : TypeId} {H : List Blk} {b o i : Nat} {blk : Blk} {Q : List D} {d : D} (hk : kindA P t = some (true, 32)) (hb : H[b]? = some blk) (hw : blk.wr = true) (hc : blk.cells = dsC Q) (hi : i < Q.length) (ho : o = i * 32) :
    storeD P t H (.pointer (some ⟨b, o, none⟩)) (dgV d) = some (b, { blk with cells := dsC (Q.set i d) }) := by
  subst ho
  unfold storeD
  rw [hk]
  simp only [hb, Option.bind_some, hw, hc]
  rw [if_pos]
  · have e : (dgV d).cells.toList = rowE w8 32 d := rfl
    rw [e, dsC_set Q i d hi]
  · have h1 : (rowE w8 32 d).all pureC = true := rowE_pure d
    have h2 : (rowE w8 32 d).all storC = true := rowE_all fun _ => rfl
    simp only [Bool.true_and, Bool.and_eq_true, decide_eq_true_eq, beq_iff_eq, dsC_len]
    refine ⟨⟨by show (rowE w8 32 d).toArray.size = 32; simp [rowE_len], ?_⟩, by omega⟩
    show okCells blk.pur (rowE w8 32 d) = true
    unfold okCells
    split
    · exact h1
    · exact h2
def revN (P : List D) : Nat → List D
  | 0 => P
  | i + 1 => ((revN P i).set i ((revN P i).getD (P.length - 1 - i) d0)).set (P.length - 1 - i) ((revN P i).getD i d0)
theorem revN_len (P : List D) : ∀ i, (revN P i).length = P.length
  | 0 => rfl
  | i + 1 => by simp [revN, revN_len P i]
/-- A row of digests that stays where it is. -/
def dsM (b : Bool) (ds : List D) : Blk := { cells := dsC ds, sz := 32, wr := true, fix := false, mv := b, pur := true }
end Go.Flat
end
section
set_option linter.unusedVariables false
set_option maxRecDepth 20000
namespace Go.Flat
open Go.Proofs
variable {G : Glob}
/-- The proof's digests from the root down: 'f' rounds at most. -/
def inclN (kk : Nat → BitVec 32) (f : Nat) (l : List D) (i : Nat) (down : List D) : List D :=
  match f with
  | 0 => down
  | f + 1 => if l.length ≤ 1 then down else
      let k := (splitF l.length).toNat
      if i < k then inclN kk f (l.take k) i (down ++ [rootI kk (l.drop k)]) else inclN kk f (l.drop k) (i - k) (down ++ [rootI kk (l.take k)])
theorem splitF_pos {n : Nat} (h : 2 ≤ n) : 1 ≤ (splitF n).toNat ∧ (splitF n).toNat < n ∧ splitF n = ((splitF n).toNat : Int) := by
  unfold splitF
  rw [if_neg (by omega)]
  have hb : ((n : Int) - 1).toNat = n - 1 := by omega
  rw [hb]
  have h0 : n - 1 ≠ 0 := by omega
  have e : bitLen (n - 1) - 1 = (n - 1).log2 := by unfold bitLen; rw [if_neg h0]; rfl
  rw [e]
  have h1 := Nat.log2_self_le h0
  have h2 : (2 : Int) ^ (n - 1).log2 = ((2 ^ (n - 1).log2 : Nat) : Int) := by simp
  have h3 : 0 < 2 ^ (n - 1).log2 := Nat.pow_pos (by decide)
  rw [h2, Int.toNat_natCast]
  refine ⟨h3, by omega, rfl⟩
theorem dsR_kept (ds : List D) : (([dsR ds] : List Blk).all (keptB ([dsR ds] : List Blk).length)) = true := by simp [keptB, dsR]
end Go.Flat
end
section
set_option linter.unusedVariables false
set_option maxRecDepth 20000
namespace Go.Flat
open Go.Proofs
variable {G : Glob}
def sub (ds : List D) (o m : Nat) : List D := (ds.drop o).take m
theorem sub_len {ds : List D} {o m : Nat} (h : o + m ≤ ds.length) : (sub ds o m).length = m := by simp [sub]; omega
theorem sub_take {ds : List D} {o m k : Nat} (h : k ≤ m) : (sub ds o m).take k = sub ds o k := by simp [sub, List.take_take, Nat.min_eq_left h]
theorem sub_drop {ds : List D} {o m k : Nat} : (sub ds o m).drop k = sub ds (o + k) (m - k) := by simp [sub, List.drop_take]
theorem dsC_sub {ds : List D} {o m : Nat} (h : o + m ≤ ds.length) : ((dsC ds).drop (o * 32)).take (m * 32) = dsC (sub ds o m) := by
  have e : ds = ds.take o ++ ds.drop o := (List.take_append_drop o ds).symm
  have h1 := dsC_drop (ds.take o) (ds.drop o)
  rw [← e, show (ds.take o).length = o from by simp; omega] at h1
  rw [h1]
  have h2 := dsC_take ((ds.drop o).take m) ((ds.drop o).drop m)
  rw [List.take_append_drop, show ((ds.drop o).take m).length = m from by simp; omega] at h2
  exact h2
theorem sub_all (ds : List D) : sub ds 0 ds.length = ds := by simp [sub]
structure IncS where
  o : Nat
  m : Nat
  cap : Nat
  i : Nat
  f : Nat
  down : List D
end Go.Flat
end
section
set_option linter.unusedVariables false
set_option maxRecDepth 20000
namespace Go.Flat
open Go.Proofs
variable {G : Glob}
end Go.Flat
end
section
set_option linter.unusedVariables false
set_option maxRecDepth 20000
namespace Go.Flat
open Go.Proofs
variable {G : Glob}
/-- The proof's digests from the root down, and whether the size's own root is known: 'f' rounds at most. -/
def consN (kk : Nat → BitVec 32) (f : Nat) (l : List D) (m : Nat) (kn : Bool) (down : List D) : List D :=
  match f with
  | 0 => if kn then down else down ++ [rootI kk l]
  | f + 1 => if l.length ≤ m then (if kn then down else down ++ [rootI kk l]) else
      let k := (splitF l.length).toNat
      if m ≤ k then consN kk f (l.take k) m kn (down ++ [rootI kk (l.drop k)]) else consN kk f (l.drop k) (m - k) false (down ++ [rootI kk (l.take k)])
structure ConS where
  o : Nat
  m : Nat
  cap : Nat
  i : Nat
  kn : Bool
  f : Nat
  down : List D
end Go.Flat
end
section
set_option linter.unusedVariables false
set_option maxRecDepth 20000
namespace Go.Flat
open Go.Proofs
variable {G : Glob}
theorem srcA_ds {H : List Blk} {b : Nat} {B : Blk} (ds : List D) (c : Nat) (hb : H[b]? = some B) (hc : B.cells = dsC ds) : srcA H 32 (slv b 0 ds.length c) = some (ds.length, dsC ds) := by
  unfold srcA
  simp only [hb, Option.bind_some, hc, Nat.zero_add, List.drop_zero]
  rw [if_pos (by rw [dsC_len]; exact Nat.le_refl _), List.take_of_length_le (by rw [dsC_len]; exact Nat.le_refl _)]
end Go.Flat
end
section
set_option linter.unusedVariables false
set_option maxRecDepth 20000
namespace Go.Flat
open Go.Proofs
variable {G : Glob}
def dg1 (k : Nat) : D := fun i => if i = 0 then BitVec.ofNat 8 k else 0
theorem sameDs_refl (us : List D) : sameDs us us = true := by
  unfold sameDs
  simp only [Bool.and_eq_true, beq_iff_eq, List.all_eq_true, List.mem_range]
  refine ⟨trivial, ?_⟩
  intro i hi
  simp [sameB]
theorem root1 (kk : Nat → BitVec 32) (a : D) : rootI kk [a] = a := by rfl
theorem root2 (kk : Nat → BitVec 32) (a b : D) : rootI kk [a, b] = knotF kk a b := by kernel_rfl
theorem root3 (kk : Nat → BitVec 32) (a b c : D) : rootI kk [a, b, c] = knotF kk (knotF kk a b) c := by kernel_rfl
theorem split3 : (splitF 3).toNat = 2 := by decide
theorem split2 : (splitF 2).toNat = 1 := by decide
theorem incl30 (kk : Nat → BitVec 32) (a b c : D) : inclN kk 3 [a, b, c] 0 [] = [c, b] := by kernel_rfl
theorem incl32 (kk : Nat → BitVec 32) (a b c : D) : inclN kk 3 [a, b, c] 2 [] = [knotF kk a b] := by kernel_rfl
theorem cons32 (kk : Nat → BitVec 32) (a b c : D) : consN kk 3 [a, b, c] 2 true [] = [c] := by kernel_rfl
theorem rev2 (a b : D) : revN [a, b] 1 = [b, a] := rfl
theorem sp1 : splitF 1 = 0 := by decide
theorem sp5 : splitF 5 = 4 := by decide
theorem sp8 : splitF 8 = 4 := by decide
theorem dsC_whole (ds : List D) : ((dsC ds).drop 0).take (dsC ds).length = dsC ds := by simp
theorem dg_at (a : D) : ((dgB a).cells.drop 0).take 32 = rowE w8 32 a := by
  show ((rowE w8 32 a).drop 0).take 32 = _
  rw [List.drop_zero, List.take_of_length_le (by rw [rowE_len]; exact Nat.le_refl _)]
theorem emb_ds {H : List Blk} {e : Emb} {id : Nat} {ds : List D} (hB : H[id]? = some (dsB ds)) : embOneM H e (some (id, 0)) (dsR ds) :=
  emb_ro hB rfl (by show 0 + (dsC _).length ≤ (dsC _).length; omega) (dsC_whole _)
theorem sameB_refl (n : Nat) (a : D) : sameB n a a = true := by simp [sameB]
theorem dg1_row (k : Nat) : rowE w8 32 (dg1 k) = w8 (BitVec.ofNat 8 k) :: List.replicate 31 (w8 0) := by rfl
end Go.Flat
end
