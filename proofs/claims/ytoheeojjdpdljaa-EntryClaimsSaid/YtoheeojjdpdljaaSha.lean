/- Walks of the sum and of the tree's functions: what each computes, for every input within the bounds that each theorem names. -/
import Derived.Test.YtoheeojjdpdljaaFlatC
import Derived.Test.YtoheeojjdpdljaaProg
section
set_option maxRecDepth 20000
namespace Go.Flat
open Go.Proofs
variable {G : Glob}
def rot (x : BitVec 32) (n : Nat) : BitVec 32 := x <<< n ||| x >>> (32 - n)

def three3 (x : BitVec 32) (a b : Int) (z : BitVec 32) : BitVec 32 := rot x ((0 - a) % 32).toNat ^^^ rot x ((0 - b) % 32).toNat ^^^ z
end Go.Flat
end
section
set_option linter.unusedVariables false
set_option linter.unusedSimpArgs false
set_option maxRecDepth 20000
namespace Go.Flat
open Go.Proofs
variable {G : Glob}
/-- A word with one more byte behind. -/
def inB (w : Nat → BitVec 32) (i : Nat) (x : BitVec 8) : Nat → BitVec 32 := updN w (i / 4) (w (i / 4) <<< 8 ||| x.setWidth 32)
def inBs (b : Nat → BitVec 8) : Nat → Nat → BitVec 32
  | 0 => fun _ => 0
  | i + 1 => inB (inBs b i) i (b i)
def sha3p (k : BitVec 32) (v w : Nat → BitVec 32) (t : Nat) : BitVec 32 := v 7 + three3 (v 4) 6 11 (rot (v 4) ((-25 : Int) % 32).toNat) + (v 6 ^^^ (v 4 &&& (v 5 ^^^ v 6))) + k + w (t % 16)
def sha3q (v : Nat → BitVec 32) : BitVec 32 := three3 (v 0) 2 13 (rot (v 0) ((-22 : Int) % 32).toNat) + ((v 0 &&& v 1) ^^^ (v 0 &&& v 2) ^^^ (v 1 &&& v 2))
def sha3v (p q : BitVec 32) (v : Nat → BitVec 32) : Nat → BitVec 32 := fun k => if k = 0 then p + q else if k = 4 then v 3 + p else v (k - 1)
def sha3w (w : Nat → BitVec 32) (t : Nat) : Nat → BitVec 32 := updN w (t % 16) (w (t % 16) + (w ((t + 9) % 16) + three3 (w ((t + 1) % 16)) 7 18 (w ((t + 1) % 16) >>> 3) + three3 (w ((t + 14) % 16)) 17 19 (w ((t + 14) % 16) >>> 10)))
def shaT (kk : Nat → BitVec 32) (v w : Nat → BitVec 32) : Nat → (Nat → BitVec 32) × (Nat → BitVec 32)
  | 0 => (v, w)
  | t + 1 => let p := shaT kk v w t; (sha3v (sha3p (kk t) p.1 p.2 t) (sha3q p.1) p.1, sha3w p.2 t)
def addV (v V : Nat → BitVec 32) : Nat → Nat → BitVec 32
  | 0 => v
  | i + 1 => updN (addV v V i) i (addV v V i i + V i)
def rndV (kk : Nat → BitVec 32) (v : Nat → BitVec 32) (b : Nat → BitVec 8) : Nat → BitVec 32 := addV v (shaT kk v (inBs b 64) 64).1 8

abbrev pt (b o : Nat) : Value := .pointer (some ⟨b, o, none⟩)
abbrev sl (b o n c : Nat) : Value := .slice (some ⟨b, o, none⟩) n c
/-- The state's block. -/
def stB (v : Nat → BitVec 32) (r n : Value) : Blk := { cells := rowE w32 8 v ++ [r, n], sz := 10, wr := true, fix := true, mv := false, pur := false }
def byB (n : Nat) (b : Nat → BitVec 8) : Blk := { cells := rowE w8 n b, sz := 1, wr := false, fix := false, mv := true, pur := true }
def wB (w : Nat → BitVec 32) : Blk := { cells := rowE w32 16 w, sz := 16, wr := true, fix := true, mv := false, pur := true }
def vB (v : Nat → BitVec 32) : Blk := { cells := rowE w32 8 v, sz := 8, wr := true, fix := true, mv := false, pur := true }

end Go.Flat
end
section
set_option linter.unusedVariables false
set_option maxRecDepth 20000
namespace Go.Flat
open Go.Proofs
variable {G : Glob}
abbrev Bs := List (BitVec 8)
def bl (s : ByteArray) : Bs := s.data.toList.map UInt8.toBitVec
theorem bytesV_bl (s : ByteArray) : bytesV s = (bl s).map w8 := by
  unfold bytesV bl
  rw [List.map_map]; rfl
theorem bl_len (s : ByteArray) : (bl s).length = s.size := by simp [bl]
def rowB (l : Bs) : Blk := { cells := l.map w8, sz := 1, wr := true, fix := false, mv := true, pur := true }
def blk64 (l : Bs) (j : Nat) : Nat → BitVec 8 := fun i => l.getD (64 * j + i) 0
def absN (kk v : Nat → BitVec 32) (l : Bs) : Nat → Nat → BitVec 32
  | 0 => v
  | j + 1 => rndV kk (absN kk v l j) (blk64 l j)
theorem bytesV_pure (s : ByteArray) : (bytesV s).all pureC = true := by rw [bytesV_bl]; simp only [List.all_map, List.all_eq_true]; intros; rfl
theorem mapW_pure (l : Bs) : (l.map w8).all pureC = true := by simp only [List.all_map, List.all_eq_true]; intros; rfl
end Go.Flat
end
section
set_option linter.unusedVariables false
set_option maxRecDepth 20000
namespace Go.Flat
open Go.Proofs
variable {G : Glob}
def shaI : Nat → BitVec 32
  | 0 => 0x6a09e667 | 1 => 0xbb67ae85 | 2 => 0x3c6ef372 | 3 => 0xa54ff53a | 4 => 0x510e527f | 5 => 0x9b05688c | 6 => 0x1f83d9ab | _ => 0x5be0cd19
abbrev nilS : Value := .slice none 0 0
def stCells (v : Nat → BitVec 32) (r n : Value) : List Value := rowE w32 8 v ++ [r, n]
def tl (M : Bs) : Bs := M.drop (64 * (M.length / 64))
def absM (kk : Nat → BitVec 32) (M : Bs) : Nat → BitVec 32 := absN kk shaI M (M.length / 64)
def nextPre (M : Bs) (s : ByteArray) : Bs := (tl M ++ bl s).take (64 * ((tl M ++ bl s).length / 64))
def stM (kk : Nat → BitVec 32) (M pre : Bs) (r : Nat) : Blk := stB (absM kk M) (slv r pre.length (tl M).length (tl M).length) (w64 (BitVec.ofNat 64 M.length))
end Go.Flat
end
section
set_option linter.unusedVariables false
set_option maxRecDepth 20000
namespace Go.Flat
open Go.Proofs
variable {G : Glob}
def strB (ps : List ByteArray) : Blk := { cells := ps.map Value.string, sz := 1, wr := false, fix := false, mv := true, pur := true }
def dgB (d : Nat → BitVec 8) : Blk := { cells := rowE w8 32 d, sz := 32, wr := true, fix := true, mv := false, pur := true }
def msgOf (ps : List ByteArray) : Bs := (ps.map bl).flatten
def bits8 (n : BitVec 64) (i : Nat) : BitVec 8 := (n >>> (56 - 8 * (i : Int)).toNat).setWidth 8
def pad0 (r : Nat) : Bs := (128 : BitVec 8) :: List.replicate ((119 - r) % 64) 0
def padN (r : Nat) (n : BitVec 64) : Nat → Bs
  | 0 => pad0 r
  | i + 1 => padN r n i ++ [bits8 n i]
def shaD (v : Nat → BitVec 32) (i : Nat) : BitVec 8 := (v (i / 4) >>> (24 - (i : Int) % 4 * 8).toNat).setWidth 8
def shaDs (v : Nat → BitVec 32) : Nat → Nat → BitVec 8
  | 0 => fun _ => 0
  | i + 1 => updN (shaDs v i) i (shaD v i)
def lenW (M : Bs) : BitVec 64 := BitVec.ofNat 64 M.length * BitVec.ofInt 64 8
def padM (M : Bs) (i : Nat) : Bs := padN (tl M).length (lenW M) i
def shaOf (kk : Nat → BitVec 32) (M : Bs) : Nat → BitVec 8 := shaDs (absM kk (M ++ padM M 8)) 32
def strOf (l : Bs) : ByteArray := ⟨(l.map UInt8.ofBitVec).toArray⟩
theorem bl_strOf (l : Bs) : bl (strOf l) = l := by
  unfold bl strOf
  simp only [List.map_map]
  have : (UInt8.toBitVec ∘ UInt8.ofBitVec) = (id : BitVec 8 → BitVec 8) := rfl
  rw [this, List.map_id]
theorem strOf_size (l : Bs) : (strOf l).size = l.length := by rw [← bl_len, bl_strOf]

end Go.Flat
end
section
set_option linter.unusedVariables false
set_option maxRecDepth 20000
namespace Go.Flat
open Go.Proofs
variable {G : Glob}
abbrev dgV (d : Nat → BitVec 8) : Value := .agg (rowE w8 32 d).toArray
def dgL (d : Nat → BitVec 8) : Bs := (List.range 32).map d
theorem dgL_len (d : Nat → BitVec 8) : (dgL d).length = 32 := by simp [dgL]
def one1 : ByteArray := ⟨#[1]⟩
def knotF (kk : Nat → BitVec 32) (a b : Nat → BitVec 8) : Nat → BitVec 8 := shaOf kk (msgOf [one1, strOf (dgL a), strOf (dgL b)])
end Go.Flat
end
section
set_option linter.unusedVariables false
set_option maxRecDepth 20000
namespace Go.Flat
open Go.Proofs
variable {G : Glob}
end Go.Flat
end
section
set_option linter.unusedVariables false
set_option maxRecDepth 20000
namespace Go.Flat
open Go.Proofs
variable {G : Glob}
def splitF (n : Int) : Int := if n < 2 then 0 else 2 ^ (bitLen (n - 1).toNat - 1)
end Go.Flat
end
section
set_option linter.unusedVariables false
set_option maxRecDepth 20000
namespace Go.Flat
open Go.Proofs
variable {G : Glob}
end Go.Flat
end
section
set_option linter.unusedVariables false
set_option maxRecDepth 20000
namespace Go.Flat
open Go.Proofs
variable {G : Glob}
abbrev D := Nat → BitVec 8
def dsC (ds : List D) : List Value := (ds.map (rowE w8 32)).flatten
def dsB (ds : List D) : Blk := { cells := dsC ds, sz := 32, wr := true, fix := false, mv := true, pur := true }
def dsR (ds : List D) : Blk := { cells := dsC ds, sz := 32, wr := false, fix := false, mv := true, pur := true }
def varB (v : Value) : Blk := { cells := [v], sz := 1, wr := true, fix := true, mv := false, pur := false }
end Go.Flat
end
section
set_option linter.unusedVariables false
set_option maxRecDepth 20000
namespace Go.Flat
open Go.Proofs
variable {G : Glob}
def d0 : D := fun _ => 0
def knotL (kk : Nat → BitVec 32) (P : List D) : List D := P.take (P.length - 2) ++ [knotF kk (P.getD (P.length - 2) d0) (P.getD (P.length - 1) d0)]
def knotN (kk : Nat → BitVec 32) : Nat → List D → List D
  | 0, P => P
  | n + 1, P => knotL kk (knotN kk n P)
def peakI (kk : Nat → BitVec 32) (ds : List D) : Nat → List D
  | 0 => []
  | i + 1 => knotN kk (tz (i + 1)) (peakI kk ds i ++ [ds.getD i d0])
def rootI (kk : Nat → BitVec 32) (ds : List D) : D := if ds.length = 0 then shaOf kk [] else (knotN kk (lenP ds.length - 1) (peakI kk ds ds.length)).getD 0 d0
end Go.Flat
end
section
set_option linter.unusedVariables false
set_option maxRecDepth 20000
namespace Go.Flat
open Go.Proofs
variable {G : Glob}
end Go.Flat
end
section
set_option linter.unusedVariables false
set_option maxRecDepth 20000
namespace Go.Flat
open Go.Proofs
variable {G : Glob}
def sameDs (us vs : List D) : Bool := us.length == vs.length && (List.range us.length).all fun i => sameB 32 (us.getD i d0) (vs.getD i d0)
end Go.Flat
end
section
set_option linter.unusedVariables false
set_option maxRecDepth 20000
namespace Go.Flat
open Go.Proofs
variable {G : Glob}
def revN (P : List D) : Nat → List D
  | 0 => P
  | i + 1 => ((revN P i).set i ((revN P i).getD (P.length - 1 - i) d0)).set (P.length - 1 - i) ((revN P i).getD i d0)
/-- A row of digests that stays where it is. -/
def dsM (b : Bool) (ds : List D) : Blk := { cells := dsC ds, sz := 32, wr := true, fix := false, mv := b, pur := true }
end Go.Flat
end
section
set_option linter.unusedVariables false
set_option maxRecDepth 20000
namespace Go.Flat
open Go.Proofs
variable {G : Glob}
/-- The proof's digests from the root down: 'f' rounds at most. -/
def inclN (kk : Nat → BitVec 32) (f : Nat) (l : List D) (i : Nat) (down : List D) : List D :=
  match f with
  | 0 => down
  | f + 1 => if l.length ≤ 1 then down else
      let k := (splitF l.length).toNat
      if i < k then inclN kk f (l.take k) i (down ++ [rootI kk (l.drop k)]) else inclN kk f (l.drop k) (i - k) (down ++ [rootI kk (l.take k)])
theorem splitF_pos {n : Nat} (h : 2 ≤ n) : 1 ≤ (splitF n).toNat ∧ (splitF n).toNat < n ∧ splitF n = ((splitF n).toNat : Int) := by
  unfold splitF
  rw [if_neg (by omega)]
  have hb : ((n : Int) - 1).toNat = n - 1 := by omega
  rw [hb]
  have h0 : n - 1 ≠ 0 := by omega
  have e : bitLen (n - 1) - 1 = (n - 1).log2 := by unfold bitLen; rw [if_neg h0]; rfl
  rw [e]
  have h1 := Nat.log2_self_le h0
  have h2 : (2 : Int) ^ (n - 1).log2 = ((2 ^ (n - 1).log2 : Nat) : Int) := by simp
  have h3 : 0 < 2 ^ (n - 1).log2 := Nat.pow_pos (by decide)
  rw [h2, Int.toNat_natCast]
  refine ⟨h3, by omega, rfl⟩
end Go.Flat
end
section
set_option linter.unusedVariables false
set_option maxRecDepth 20000
namespace Go.Flat
open Go.Proofs
variable {G : Glob}
def sub (ds : List D) (o m : Nat) : List D := (ds.drop o).take m
structure IncS where
  o : Nat
  m : Nat
  cap : Nat
  i : Nat
  f : Nat
  down : List D
end Go.Flat
end
section
set_option linter.unusedVariables false
set_option maxRecDepth 20000
namespace Go.Flat
open Go.Proofs
variable {G : Glob}
end Go.Flat
end
section
set_option linter.unusedVariables false
set_option maxRecDepth 20000
namespace Go.Flat
open Go.Proofs
variable {G : Glob}
/-- The proof's digests from the root down, and whether the size's own root is known: 'f' rounds at most. -/
def consN (kk : Nat → BitVec 32) (f : Nat) (l : List D) (m : Nat) (kn : Bool) (down : List D) : List D :=
  match f with
  | 0 => if kn then down else down ++ [rootI kk l]
  | f + 1 => if l.length ≤ m then (if kn then down else down ++ [rootI kk l]) else
      let k := (splitF l.length).toNat
      if m ≤ k then consN kk f (l.take k) m kn (down ++ [rootI kk (l.drop k)]) else consN kk f (l.drop k) (m - k) false (down ++ [rootI kk (l.take k)])
structure ConS where
  o : Nat
  m : Nat
  cap : Nat
  i : Nat
  kn : Bool
  f : Nat
  down : List D
end Go.Flat
end
section
set_option linter.unusedVariables false
set_option maxRecDepth 20000
namespace Go.Flat
open Go.Proofs
variable {G : Glob}
end Go.Flat
end
section
set_option linter.unusedVariables false
set_option maxRecDepth 20000
namespace Go.Flat
open Go.Proofs
variable {G : Glob}
def dg1 (k : Nat) : D := fun i => if i = 0 then BitVec.ofNat 8 k else 0
end Go.Flat
end
