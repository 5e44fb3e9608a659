/- TreeLast: for every two lists and number the law returns true, and its arguments stay; the tables are tied to the program's text. -/
import Derived.Test.YtnifcpffloojcaaDoorPlain
import Derived.Test.YtnifcpffloojcaaDoorTree
section
set_option linter.unusedVariables false
set_option linter.unusedSimpArgs false
set_option maxRecDepth 20000
namespace Go.Flat
open Go.Proofs
variable {G : Glob}
theorem srcA_n {H : List Blk} {b n : Nat} {B : Blk} {ds : List D} {c : Nat} (hb : H[b]? = some B) (hc : B.cells = dsC ds) (hn : ds.length = n) : srcA H 32 (slv b 0 n c) = some (n, dsC ds) := by
  subst hn; exact srcA_ds ds c hb hc
theorem appN_ds {P : Program} {H : List Blk} {t : TypeId} {q : Value} {nid n by_ : Nat} {zc : List Value} {ds : List D} (ht : sliceTyA P t = some (32, zc, by_)) (hz : (zc.length == 32 && zc.all scalC) = true) (hs : srcA H 32 q = some (n, dsC ds)) (hby : 0 < by_) (hm : n * by_ ≤ 140737488355328) (hf : freeA H nid = true) :
    appN P H t nilS q nid = some (slv nid 0 n n, dsB ds) := by
  rw [Bool.and_eq_true, beq_iff_eq] at hz
  unfold appN
  rw [ht]
  simp only [hs, Option.bind_some]
  rw [if_pos ⟨trivial, trivial, hz.1, by rw [hz.2]; exact dsC_pure ds, by decide, hby, hm, hf⟩, hz.2]
  rfl
theorem appD_ds {P : Program} {H : List Blk} {t : TypeId} {q : Value} {b c n k n' by_ : Nat} {zc : List Value} {ls ms : List D} (ht : sliceTyA P t = some (32, zc, by_)) (hz : zc.length = 32) (hs : srcA H 32 q = some (k, dsC ms)) (hb : H[b]? = some (dsB ls)) (hn : ls.length = n) (hk : n + k = n') (hby : 0 < by_) (hm : n' * by_ ≤ 140737488355328) :
    appD P H t (slv b 0 n c) q = some (slv b 0 n' n', b, dsB (ls ++ ms)) := by
  have hc : (dsB ls).cells.length = n * 32 := by show (dsC ls).length = _; rw [dsC_len, hn]
  rw [appD_pure (n' := n') (p := (k, dsC ms)) ht hs hb rfl rfl hz (dsC_pure ms) (by rw [hc]; omega) hby hk hm]
  have : List.take (n * 32) (List.drop 0 (dsB ls).cells) ++ dsC ms = dsC (ls ++ ms) := by
    rw [List.drop_zero, List.take_of_length_le (by rw [hc]; exact Nat.le_refl _), dsC_app]; rfl
  simp only [this]
  rfl
end Go.Flat
end
section
namespace Go.Proofs.YtnifcpffloojcaaDoor
open Go.ChangeShapes Go.WideShapes Go.ChangeAt Go.RowKit
set_option linter.unusedVariables false
end Go.Proofs.YtnifcpffloojcaaDoor
end
