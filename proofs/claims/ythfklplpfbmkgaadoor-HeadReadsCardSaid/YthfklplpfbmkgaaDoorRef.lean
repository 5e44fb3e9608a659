/- Walks of the reference's sum and tree: they come to what the program's come to. -/
import Derived.Test.YthfklplpfbmkgaaDoorSha
import Derived.Test.YthfklplpfbmkgaaDoorFlatC
import Derived.Test.YthfklplpfbmkgaaDoorLast
section
set_option linter.unusedVariables false
set_option linter.unusedSimpArgs false
set_option maxRecDepth 20000
namespace Go.Flat
open Go.Proofs
variable {G : Glob}
def turnF (x : BitVec 32) (n : Nat) : BitVec 32 := x >>> n ||| x <<< (32 - n)
def wB64 (w : Nat → BitVec 32) : Blk := { cells := rowE w32 64 w, sz := 64, wr := true, fix := true, mv := false, pur := true }
def inR (b : Nat → BitVec 8) : Nat → Nat → BitVec 32
  | 0 => fun _ => 0
  | k + 1 => updN (inR b k) (k / 4) (inR b k (k / 4) * BitVec.ofInt 32 256 + (b k).setWidth 32)
def refW (w : Nat → BitVec 32) (t : Nat) : BitVec 32 := w (t - 16) + w (t - 7) + (turnF (w (t - 15)) 7 ^^^ turnF (w (t - 15)) 18 ^^^ w (t - 15) >>> 3) + (turnF (w (t - 2)) 17 ^^^ turnF (w (t - 2)) 19 ^^^ w (t - 2) >>> 10)
def schR (b : Nat → BitVec 8) : Nat → Nat → BitVec 32
  | 0 => inR b 64
  | k + 1 => updN (schR b k) (16 + k) (refW (schR b k) (16 + k))
end Go.Flat
end
section
set_option linter.unusedVariables false
set_option maxRecDepth 20000
namespace Go.Flat
open Go.Proofs
variable {G : Glob}
def refP (k : BitVec 32) (v w : Nat → BitVec 32) (t : Nat) : BitVec 32 := v 7 + (turnF (v 4) 6 ^^^ turnF (v 4) 11 ^^^ turnF (v 4) 25) + ((v 4 &&& v 5) ^^^ (~~~(v 4) &&& v 6)) + k + w t
def refQ (v : Nat → BitVec 32) : BitVec 32 := (turnF (v 0) 2 ^^^ turnF (v 0) 13 ^^^ turnF (v 0) 22) + ((v 0 &&& v 1) ^^^ (v 0 &&& v 2) ^^^ (v 1 &&& v 2))
def refT (kk : Nat → BitVec 32) (v w : Nat → BitVec 32) : Nat → Nat → BitVec 32
  | 0 => v
  | t + 1 => sha3v (refP (kk t) (refT kk v w t) w t) (refQ (refT kk v w t)) (refT kk v w t)
def refB (kk : Nat → BitVec 32) (v : Nat → BitVec 32) (b : Nat → BitVec 8) : Nat → BitVec 32 := addV v (refT kk v (schR b 48) 64) 8
attribute [local irreducible] turnF
end Go.Flat
end
section
set_option linter.unusedVariables false
set_option maxRecDepth 20000
namespace Go.Flat
open Go.Proofs
variable {G : Glob}
theorem appD_row {P : Program} {H : List Blk} {t : TypeId} {q : Value} {b c n k n' by_ : Nat} {zc : List Value} {ls : Bs} {ms : List Value} {ms' : Bs} (ht : sliceTyA P t = some (1, zc, by_)) (hz : zc.length = 1) (hs : srcA H 1 q = some (k, ms)) (hms : ms = ms'.map w8) (hb : H[b]? = some (rowB ls)) (hn : ls.length = n) (hk : n + k = n') (hby : 0 < by_) (hm : n' * by_ ≤ 140737488355328) :
    appD P H t (slv b 0 n c) q = some (slv b 0 n' n', b, rowB (ls ++ ms')) := by
  subst hms
  have hc : (rowB ls).cells.length = n := by show (ls.map w8).length = _; simp [hn]
  rw [appD_pure (n' := n') (p := (k, ms'.map w8)) ht hs hb rfl rfl hz (mapW_pure ms') (by rw [hc]; omega) hby hk hm]
  have : List.take (n * 1) (List.drop 0 (rowB ls).cells) ++ ms'.map w8 = (ls ++ ms').map w8 := by
    rw [List.drop_zero, List.take_of_length_le (by rw [hc]; omega), List.map_append]; rfl
  simp only [this]
  rfl
end Go.Flat
end
section
set_option linter.unusedVariables false
set_option maxRecDepth 20000
namespace Go.Flat
open Go.Proofs
variable {G : Glob}
theorem slice_both {P : Program} {H : List Blk} {t : TypeId} {b o n c : Nat} {k k' : IntKind} {l h sz j m c' : Nat} {e : TypeId} {i : TypeInfo} {x y : Int} (hu : P.underlying t = some (.slice e)) (hi : P.info? e = some i) (hz : i.size = sz) (hx : x = (l : Int)) (hy : y = (h : Int)) (hl : l ≤ h) (hh : h ≤ c) (ho : slcOK H b i.size = true) (hj : o + l * sz = j) (hm : h - l = m) (hc' : c - l = c') :
    sliceD P H t (slv b o n c) (some (.int k x)) (some (.int k' y)) = some (slv b j m c') := by
  subst hx; subst hy; subst hz; subst hm; subst hc'
  unfold sliceD
  rw [hu]
  simp only [boundsA, intA, Option.bind_some]
  rw [if_pos ⟨by omega, by omega⟩]
  simp [hi, ho, hj, hl]
def absR (kk v : Nat → BitVec 32) (l : Bs) : Nat → Nat → BitVec 32
  | 0 => v
  | j + 1 => refB kk (absR kk v l j) (blk64 l j)
def refS (kk : Nat → BitVec 32) (M : Bs) : Nat → BitVec 8 := shaDs (absR kk shaI (M ++ padM M 8) ((M ++ padM M 8).length / 64)) 32
end Go.Flat
end
section
set_option linter.unusedVariables false
set_option maxRecDepth 20000
namespace Go.Flat
open Go.Proofs
variable {G : Glob}
theorem bin_cat {P : Program} {t : TypeId} {x y : Operand} {a b : ByteArray} (h : a.size + b.size ≤ 140737488351232) : binD P .add t x y (.string a) (.string b) = some (.string (a ++ b)) := by
  unfold binD
  rw [if_pos (show (pureV (.string a) && pureV (.string b)) = true from rfl)]
  have hg : evalPure P (eqGuard .add t x y (.string a) (.string b)) = some () := rfl
  rw [evalPure_bind, hg, Option.bind_some]
  have e : binOp .add t (.string a) (.string b) = Op.stringOp .add a b := rfl
  rw [e]
  unfold Op.stringOp
  dsimp only
  rw [if_neg (by show ¬ (((a.size + b.size : Nat) : Int) > 9223372036854775807); omega)]
  rfl
theorem bl_append (a b : ByteArray) : bl (a ++ b) = bl a ++ bl b := by
  unfold bl
  simp
def refKF (kk : Nat → BitVec 32) (a b : Nat → BitVec 8) : Nat → BitVec 8 := refS kk (msgOf [one1, strOf (dgL a), strOf (dgL b)])
end Go.Flat
end
section
set_option linter.unusedVariables false
set_option maxRecDepth 20000
namespace Go.Flat

def wF (b : Nat → BitVec 8) (i : Nat) : BitVec 32 := schR b (i - 15) i
end Go.Flat
end
section
set_option linter.unusedVariables false
set_option maxRecDepth 20000
namespace Go.Flat
open Go.Proofs
variable {G : Glob}
end Go.Flat
end
section
set_option linter.unusedVariables false
set_option maxRecDepth 20000
namespace Go.Flat
open Go.Proofs
variable {G : Glob}
end Go.Flat
end
section
set_option linter.unusedVariables false
set_option maxRecDepth 20000
namespace Go.Flat
open Go.Proofs
variable {G : Glob}
def consR (kk : Nat → BitVec 32) (l : List D) (m : Nat) (kn : Bool) : List D := (consN kk l.length l m kn []).reverse
end Go.Flat
end
