/- Rows of digests: loads and lendings that sx prints. -/
import Derived.Test.YthfklplpfbmkgaaDoorLast
import Derived.Test.YthfklplpfbmkgaaDoorRef
import Derived.Test.YthfklplpfbmkgaaDoorFlatF
set_option linter.unusedVariables false
set_option linter.unusedSimpArgs false
set_option maxRecDepth 20000
namespace Go.Flat
open Go.Proofs
def dz : D := fun _ => 0
section
variable {P : Program} {G : Glob} {t : TypeId} {H : List Blk} {b : Nat} {blk : Blk}
theorem emb_rwB {α : Type} {c : Cod α} {e : Emb} {id : Nat} {l : List α} (hB : H[id]? = some (rwB c l)) : embOneM H e (some (id, 0)) (rwR c l) :=
  emb_ro hB (by show (decide (0 < c.n) && decide (0 < c.n) && _ && (_ || c.n == c.n) && _ && _) = true; simp [c.pos, rwR, rwB]) (by show 0 + (c.row _).length ≤ (c.row _).length; omega) (by show ((c.row l).drop 0).take (c.row l).length = c.row l; simp)
end
def txB (ts : List ByteArray) : Blk := { cells := ts.map Value.string, sz := 1, wr := true, fix := false, mv := true, pur := true }
theorem emb_tx {e : Emb} {id : Nat} {ts : List ByteArray} {H : List Blk} (hB : H[id]? = some (txB ts)) : embOneM H e (some (id, 0)) (strB ts) :=
  emb_ro hB rfl (by show 0 + (ts.map Value.string).length ≤ (ts.map Value.string).length; omega) (by show ((ts.map Value.string).drop 0).take (ts.map Value.string).length = ts.map Value.string; rw [List.drop_zero, List.take_length])
theorem emb_str {e : Emb} {id : Nat} {ts : List ByteArray} {H : List Blk} (hB : H[id]? = some (strB ts)) : embOneM H e (some (id, 0)) (strB ts) :=
  emb_ro hB rfl (by show 0 + (ts.map Value.string).length ≤ (ts.map Value.string).length; omega) (by show ((ts.map Value.string).drop 0).take (ts.map Value.string).length = ts.map Value.string; rw [List.drop_zero, List.take_length])
def sameT (a b : ByteArray) : Bool := a.toList == b.toList
theorem sameT_refl (a : ByteArray) : sameT a a = true := by simp [sameT]
theorem neq_str {P : Program} {t : TypeId} {x y : Operand} (a b : ByteArray) : binD P .neq t x y (.string a) (.string b) = some (.bool (!sameT a b)) := by
  unfold binD
  rw [if_pos (show (pureV (.string a) && pureV (.string b)) = true from rfl)]
  have hg : evalPure P (eqGuard .neq t x y (.string a) (.string b)) = some () := rfl
  rw [evalPure_bind, hg, Option.bind_some]
  have e : binOp .neq t (.string a) (.string b) = Op.stringOp .neq a b := rfl
  rw [e]
  rfl
theorem eql_str {P : Program} {t : TypeId} {x y : Operand} (a b : ByteArray) : binD P .eql t x y (.string a) (.string b) = some (.bool (sameT a b)) := by
  unfold binD
  rw [if_pos (show (pureV (.string a) && pureV (.string b)) = true from rfl)]
  have hg : evalPure P (eqGuard .eql t x y (.string a) (.string b)) = some () := rfl
  rw [evalPure_bind, hg, Option.bind_some]
  have e : binOp .eql t (.string a) (.string b) = Op.stringOp .eql a b := rfl
  rw [e]
  rfl
variable {G : Glob}
end Go.Flat
