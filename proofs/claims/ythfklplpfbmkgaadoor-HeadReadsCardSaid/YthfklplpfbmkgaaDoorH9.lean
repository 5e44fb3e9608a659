/- Walks and plain laws: what each theorem says, within the bounds that it names. -/
import Derived.Test.YthfklplpfbmkgaaDoorH8
import Derived.Test.YthfklplpfbmkgaaDoorFlatG
set_option linter.unusedVariables false
set_option linter.unusedSimpArgs false
set_option maxRecDepth 20000
namespace Go.Flat
open Go.Proofs Go.ChangeShapes Go.WideShapes Go.RowKit
variable {G : Glob}
def eqHead (a b : Head) : Bool := ((a.region == b.region) && ((a.epoch == b.epoch) && ((a.size == b.size) && ((sameB 32 a.root b.root) && ((a.tick == b.tick) && true)))))
theorem eq_Head (a b : Head) {d : Nat} : evalPure Tryd.prog (Op.equalIn (d + 3) 26 (headV a) (headV b)) = some (eqHead a b) :=
  eqS (P := Tryd.prog) (d + 2) 26 _ (headC a).toArray (headC b).toArray (fun f => if f.offset = 0 then (a.region == b.region) else if f.offset = 1 then (a.epoch == b.epoch) else if f.offset = 2 then (a.size == b.size) else if f.offset = 3 then (sameB 32 a.root b.root) else if f.offset = 35 then (a.tick == b.tick) else true) rfl (by kernel_rfl) (List.forall_mem_cons.2 ⟨⟨by decide, .int .i64 a.region, .int .i64 b.region, part_one rfl rfl rfl, part_one rfl rfl rfl, eq_int rfl⟩, List.forall_mem_cons.2 ⟨⟨by decide, .int .i64 a.epoch, .int .i64 b.epoch, part_one rfl rfl rfl, part_one rfl rfl rfl, eq_int rfl⟩, List.forall_mem_cons.2 ⟨⟨by decide, .int .i64 a.size, .int .i64 b.size, part_one rfl rfl rfl, part_one rfl rfl rfl, eq_int rfl⟩, List.forall_mem_cons.2 ⟨⟨by decide, .agg (rowE w8 32 a.root).toArray, .agg (rowE w8 32 b.root).toArray, part_cells (n := 32) rfl rfl rfl rfl rfl, part_cells (n := 32) rfl rfl rfl rfl rfl, eq_bytes rfl rfl rfl⟩, List.forall_mem_cons.2 ⟨⟨by decide, .int .i64 a.tick, .int .i64 b.tick, part_one rfl rfl rfl, part_one rfl rfl rfl, eq_int rfl⟩, fun _ h => absurd h (by simp)⟩⟩⟩⟩⟩)
theorem eql_Head {x y : Operand} (a b : Head) : binD Tryd.prog .eql 26 x y (headV a) (headV b) = some (.bool (eqHead a b)) := eql_agg (by kernel_rfl) (by kernel_rfl) (eq_Head a b (d := 9997))
theorem neq_Head {x y : Operand} (a b : Head) : binD Tryd.prog .neq 26 x y (headV a) (headV b) = some (.bool (!eqHead a b)) := neq_agg (by kernel_rfl) (by kernel_rfl) (eq_Head a b (d := 9997))
theorem eqHead_refl (a : Head) : eqHead a a = true := by simp [eqHead, sameB]
def eqSigned (a b : Signed) : Bool := ((eqHead a.head b.head) && ((a.node == b.node) && ((sameB 32 a.tag b.tag) && true)))
theorem eq_Signed (a b : Signed) {d : Nat} : evalPure Tryd.prog (Op.equalIn (d + 4) 28 (signedV a) (signedV b)) = some (eqSigned a b) :=
  eqS (P := Tryd.prog) (d + 3) 28 _ (signedC a).toArray (signedC b).toArray (fun f => if f.offset = 0 then (eqHead a.head b.head) else if f.offset = 36 then (a.node == b.node) else if f.offset = 37 then (sameB 32 a.tag b.tag) else true) rfl (by kernel_rfl) (List.forall_mem_cons.2 ⟨⟨by decide, headV a.head, headV b.head, part_cells (n := 36) rfl rfl rfl rfl rfl, part_cells (n := 36) rfl rfl rfl rfl rfl, eq_Head a.head b.head⟩, List.forall_mem_cons.2 ⟨⟨by decide, .int .i64 a.node, .int .i64 b.node, part_one rfl rfl rfl, part_one rfl rfl rfl, eq_int rfl⟩, List.forall_mem_cons.2 ⟨⟨by decide, .agg (rowE w8 32 a.tag).toArray, .agg (rowE w8 32 b.tag).toArray, part_cells (n := 32) rfl rfl rfl rfl rfl, part_cells (n := 32) rfl rfl rfl rfl rfl, eq_bytes rfl rfl rfl⟩, fun _ h => absurd h (by simp)⟩⟩⟩)
theorem neq_Signed {x y : Operand} (a b : Signed) : binD Tryd.prog .neq 28 x y (signedV a) (signedV b) = some (.bool (!eqSigned a b)) := neq_agg (by kernel_rfl) (by kernel_rfl) (eq_Signed a b (d := 9996))
theorem eqSigned_refl (a : Signed) : eqSigned a a = true := by simp [eqSigned, sameB, eqHead_refl]
def okHead (a : Head) : Prop := (-9223372036854775808 ≤ a.region ∧ a.region ≤ 9223372036854775807) ∧ (-9223372036854775808 ≤ a.epoch ∧ a.epoch ≤ 9223372036854775807) ∧ (-9223372036854775808 ≤ a.size ∧ a.size ≤ 9223372036854775807) ∧ True ∧ (-9223372036854775808 ≤ a.tick ∧ a.tick ≤ 9223372036854775807) ∧ True
def okSigned (a : Signed) : Prop := okHead a.head ∧ (-9223372036854775808 ≤ a.node ∧ a.node ≤ 9223372036854775807) ∧ True ∧ True
end Go.Flat
