/- Rows of digests: loads and lendings that sx prints. -/
import Derived.Test.YtgmnjggeffdjhaaDoorLast
import Derived.Test.YtgmnjggeffdjhaaDoorRef
import Derived.Test.YtgmnjggeffdjhaaDoorFlatF
set_option linter.unusedVariables false
set_option linter.unusedSimpArgs false
set_option maxRecDepth 20000
namespace Go.Flat
open Go.Proofs
def dz : D := fun _ => 0
section
variable {P : Program} {G : Glob} {t : TypeId} {H : List Blk} {b : Nat} {blk : Blk}
theorem emb_dsR {e : Emb} {id : Nat} {ds : List D} (hB : H[id]? = some (dsR ds)) : embOneM H e (some (id, 0)) (dsR ds) :=
  emb_ro hB rfl (by show 0 + (dsC _).length ≤ (dsC _).length; omega) (dsC_whole _)
theorem emb_dsB {e : Emb} {id : Nat} {ds : List D} (hB : H[id]? = some (dsB ds)) : embOneM H e (some (id, 0)) (dsR ds) := emb_ds hB
theorem emb_rwB {α : Type} {c : Cod α} {e : Emb} {id : Nat} {l : List α} (hB : H[id]? = some (rwB c l)) : embOneM H e (some (id, 0)) (rwR c l) :=
  emb_ro hB (by show (decide (0 < c.n) && decide (0 < c.n) && _ && (_ || c.n == c.n) && _ && _) = true; simp [c.pos, rwR, rwB]) (by show 0 + (c.row _).length ≤ (c.row _).length; omega) (by show ((c.row l).drop 0).take (c.row l).length = c.row l; simp)
theorem emb_rwR {α : Type} {c : Cod α} {e : Emb} {id : Nat} {l : List α} (hB : H[id]? = some (rwR c l)) : embOneM H e (some (id, 0)) (rwR c l) :=
  emb_ro hB (by show (decide (0 < c.n) && decide (0 < c.n) && _ && (_ || c.n == c.n) && _ && _) = true; simp [c.pos, rwR]) (by show 0 + (c.row _).length ≤ (c.row _).length; omega) (by show ((c.row l).drop 0).take (c.row l).length = c.row l; simp)
end
def txB (ts : List ByteArray) : Blk := { cells := ts.map Value.string, sz := 1, wr := true, fix := false, mv := true, pur := true }
theorem emb_tx {e : Emb} {id : Nat} {ts : List ByteArray} {H : List Blk} (hB : H[id]? = some (txB ts)) : embOneM H e (some (id, 0)) (strB ts) :=
  emb_ro hB rfl (by show 0 + (ts.map Value.string).length ≤ (ts.map Value.string).length; omega) (by show ((ts.map Value.string).drop 0).take (ts.map Value.string).length = ts.map Value.string; rw [List.drop_zero, List.take_length])
def sameT (a b : ByteArray) : Bool := a.toList == b.toList
theorem sameBd_refl (n : Nat) (a : D) : sameB n a a = true := by simp [sameB]
variable {G : Glob}
end Go.Flat
