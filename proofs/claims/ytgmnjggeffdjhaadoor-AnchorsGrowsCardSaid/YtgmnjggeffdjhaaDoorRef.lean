/- Walks of the reference's sum and tree: they come to what the program's come to. -/
import Derived.Test.YtgmnjggeffdjhaaDoorSha
import Derived.Test.YtgmnjggeffdjhaaDoorFlatC
import Derived.Test.YtgmnjggeffdjhaaDoorLast
section
set_option linter.unusedVariables false
set_option linter.unusedSimpArgs false
set_option maxRecDepth 20000
namespace Go.Flat
open Go.Proofs
variable {G : Glob}
def turnF (x : BitVec 32) (n : Nat) : BitVec 32 := x >>> n ||| x <<< (32 - n)
def wB64 (w : Nat → BitVec 32) : Blk := { cells := rowE w32 64 w, sz := 64, wr := true, fix := true, mv := false, pur := true }
def inR (b : Nat → BitVec 8) : Nat → Nat → BitVec 32
  | 0 => fun _ => 0
  | k + 1 => updN (inR b k) (k / 4) (inR b k (k / 4) * BitVec.ofInt 32 256 + (b k).setWidth 32)
def refW (w : Nat → BitVec 32) (t : Nat) : BitVec 32 := w (t - 16) + w (t - 7) + (turnF (w (t - 15)) 7 ^^^ turnF (w (t - 15)) 18 ^^^ w (t - 15) >>> 3) + (turnF (w (t - 2)) 17 ^^^ turnF (w (t - 2)) 19 ^^^ w (t - 2) >>> 10)
def schR (b : Nat → BitVec 8) : Nat → Nat → BitVec 32
  | 0 => inR b 64
  | k + 1 => updN (schR b k) (16 + k) (refW (schR b k) (16 + k))
end Go.Flat
end
section
set_option linter.unusedVariables false
set_option maxRecDepth 20000
namespace Go.Flat
open Go.Proofs
variable {G : Glob}
def refP (k : BitVec 32) (v w : Nat → BitVec 32) (t : Nat) : BitVec 32 := v 7 + (turnF (v 4) 6 ^^^ turnF (v 4) 11 ^^^ turnF (v 4) 25) + ((v 4 &&& v 5) ^^^ (~~~(v 4) &&& v 6)) + k + w t
def refQ (v : Nat → BitVec 32) : BitVec 32 := (turnF (v 0) 2 ^^^ turnF (v 0) 13 ^^^ turnF (v 0) 22) + ((v 0 &&& v 1) ^^^ (v 0 &&& v 2) ^^^ (v 1 &&& v 2))
def refT (kk : Nat → BitVec 32) (v w : Nat → BitVec 32) : Nat → Nat → BitVec 32
  | 0 => v
  | t + 1 => sha3v (refP (kk t) (refT kk v w t) w t) (refQ (refT kk v w t)) (refT kk v w t)
def refB (kk : Nat → BitVec 32) (v : Nat → BitVec 32) (b : Nat → BitVec 8) : Nat → BitVec 32 := addV v (refT kk v (schR b 48) 64) 8
theorem emb_same {H : List Blk} {e : Emb} {id : Nat} {L B : Blk} (hB : H[id]? = some B) (hf : (decide (0 < L.sz) && decide (0 < B.sz) && L.fix == B.fix && (L.fix || L.sz == B.sz) && (!L.pur || B.pur) && !L.wr) = true) (hc : B.cells = L.cells) (hR : cellsR e L = L.cells) : embOneM H e (some (id, 0)) L :=
  emb_ro hB hf (by rw [hc]; omega) (by rw [hc, hR]; simp)
attribute [local irreducible] turnF
end Go.Flat
end
section
set_option linter.unusedVariables false
set_option maxRecDepth 20000
namespace Go.Flat
open Go.Proofs
variable {G : Glob}
theorem appD_row {P : Program} {H : List Blk} {t : TypeId} {q : Value} {b c n k n' by_ : Nat} {zc : List Value} {ls : Bs} {ms : List Value} {ms' : Bs} (ht : sliceTyA P t = some (1, zc, by_)) (hz : zc.length = 1) (hs : srcA H 1 q = some (k, ms)) (hms : ms = ms'.map w8) (hb : H[b]? = some (rowB ls)) (hn : ls.length = n) (hk : n + k = n') (hby : 0 < by_) (hm : n' * by_ ≤ 140737488355328) :
    appD P H t (slv b 0 n c) q = some (slv b 0 n' n', b, rowB (ls ++ ms')) := by
  subst hms
  have hc : (rowB ls).cells.length = n := by show (ls.map w8).length = _; simp [hn]
  rw [appD_pure (n' := n') (p := (k, ms'.map w8)) ht hs hb rfl rfl hz (mapW_pure ms') (by rw [hc]; omega) hby hk hm]
  have : List.take (n * 1) (List.drop 0 (rowB ls).cells) ++ ms'.map w8 = (ls ++ ms').map w8 := by
    rw [List.drop_zero, List.take_of_length_le (by rw [hc]; omega), List.map_append]; rfl
  simp only [this]
  rfl
end Go.Flat
end
section
set_option linter.unusedVariables false
set_option maxRecDepth 20000
namespace Go.Flat
open Go.Proofs
variable {G : Glob}
def absR (kk v : Nat → BitVec 32) (l : Bs) : Nat → Nat → BitVec 32
  | 0 => v
  | j + 1 => refB kk (absR kk v l j) (blk64 l j)
def refS (kk : Nat → BitVec 32) (M : Bs) : Nat → BitVec 8 := shaDs (absR kk shaI (M ++ padM M 8) ((M ++ padM M 8).length / 64)) 32
end Go.Flat
end
section
set_option linter.unusedVariables false
set_option maxRecDepth 20000
namespace Go.Flat
open Go.Proofs
variable {G : Glob}
theorem bin_cat {P : Program} {t : TypeId} {x y : Operand} {a b : ByteArray} (h : a.size + b.size ≤ 140737488351232) : binD P .add t x y (.string a) (.string b) = some (.string (a ++ b)) := by
  unfold binD
  rw [if_pos (show (pureV (.string a) && pureV (.string b)) = true from rfl)]
  have hg : evalPure P (eqGuard .add t x y (.string a) (.string b)) = some () := rfl
  rw [evalPure_bind, hg, Option.bind_some]
  have e : binOp .add t (.string a) (.string b) = Op.stringOp .add a b := rfl
  rw [e]
  unfold Op.stringOp
  dsimp only
  rw [if_neg (by show ¬ (((a.size + b.size : Nat) : Int) > 9223372036854775807); omega)]
  rfl
def refKF (kk : Nat → BitVec 32) (a b : Nat → BitVec 8) : Nat → BitVec 8 := refS kk (msgOf [one1, strOf (dgL a), strOf (dgL b)])
end Go.Flat
end
section
set_option linter.unusedVariables false
set_option maxRecDepth 20000
namespace Go.Flat

def wF (b : Nat → BitVec 8) (i : Nat) : BitVec 32 := schR b (i - 15) i
end Go.Flat
end
section
set_option linter.unusedVariables false
set_option maxRecDepth 20000
namespace Go.Flat
open Go.Proofs
variable {G : Glob}
end Go.Flat
end
section
set_option linter.unusedVariables false
set_option maxRecDepth 20000
namespace Go.Flat
open Go.Proofs
variable {G : Glob}
end Go.Flat
end
section
set_option linter.unusedVariables false
set_option maxRecDepth 20000
namespace Go.Flat
open Go.Proofs
variable {G : Glob}
def consR (kk : Nat → BitVec 32) (l : List D) (m : Nat) (kn : Bool) : List D := (consN kk l.length l m kn []).reverse
theorem consR_end (kk : Nat → BitVec 32) {l : List D} {m : Nat} (kn : Bool) (h : l.length ≤ m) : consR kk l m kn = if kn then [] else [rootI kk l] := by
  unfold consR
  cases e : l.length with
  | zero => unfold consN; cases kn <;> rfl
  | succ n => unfold consN; rw [if_pos h]; cases kn <;> rfl
theorem consR_lo (kk : Nat → BitVec 32) {l : List D} {m : Nat} (kn : Bool) (h1 : 1 ≤ m) (hm : m < l.length) (hi : m ≤ splitN l.length) : consR kk l m kn = consR kk (l.take (splitN l.length)) m kn ++ [rootI kk (l.drop (splitN l.length))] := by
  obtain ⟨s1, s2⟩ := splitN_pos (n := l.length) (by omega)
  unfold consR
  obtain ⟨f, hf⟩ : ∃ f, l.length = f + 1 := ⟨l.length - 1, by omega⟩
  conv => lhs; rw [hf]; unfold consN
  rw [if_neg (by omega)]
  dsimp only
  rw [show (splitF (l.length : Int)).toNat = splitN l.length from rfl, if_pos hi, consN_acc, consN_fuel kk f (l.take (splitN l.length)).length _ _ _ _ h1 (by simp; omega) (by omega)]
  simp
theorem consR_hi (kk : Nat → BitVec 32) {l : List D} {m : Nat} (kn : Bool) (hm : m < l.length) (hi : splitN l.length < m) : consR kk l m kn = consR kk (l.drop (splitN l.length)) (m - splitN l.length) false ++ [rootI kk (l.take (splitN l.length))] := by
  obtain ⟨s1, s2⟩ := splitN_pos (n := l.length) (by omega)
  unfold consR
  obtain ⟨f, hf⟩ : ∃ f, l.length = f + 1 := ⟨l.length - 1, by omega⟩
  conv => lhs; rw [hf]; unfold consN
  rw [if_neg (by omega)]
  dsimp only
  rw [show (splitF (l.length : Int)).toNat = splitN l.length from rfl, if_neg (by omega), consN_acc, consN_fuel kk f (l.drop (splitN l.length)).length _ _ _ _ (by omega) (by simp; omega) (by omega)]
  simp
end Go.Flat
end
