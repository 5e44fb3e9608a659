/- Walks and plain laws: what each theorem says, within the bounds that it names. -/
import Derived.Test.YtgmnjggeffdjhaaDoorH8
import Derived.Test.YtgmnjggeffdjhaaDoorFlatG
set_option linter.unusedVariables false
set_option linter.unusedSimpArgs false
set_option maxRecDepth 20000
set_option maxRecDepth 20000
namespace Go.Flat
open Go.Proofs Go.ChangeShapes Go.WideShapes Go.RowKit
variable {G : Glob}
def eqHead (a b : Head) : Bool := ((a.region == b.region) && ((a.epoch == b.epoch) && ((a.size == b.size) && ((sameB 32 a.root b.root) && ((a.tick == b.tick) && true)))))
theorem eq_Head (a b : Head) {d : Nat} : evalPure Tryd.prog (Op.equalIn (d + 3) 28 (headV a) (headV b)) = some (eqHead a b) :=
  eqS (P := Tryd.prog) (d + 2) 28 _ (headC a).toArray (headC b).toArray (fun f => if f.offset = 0 then (a.region == b.region) else if f.offset = 1 then (a.epoch == b.epoch) else if f.offset = 2 then (a.size == b.size) else if f.offset = 3 then (sameB 32 a.root b.root) else if f.offset = 35 then (a.tick == b.tick) else true) rfl (by kernel_rfl) (List.forall_mem_cons.2 ⟨⟨by decide, .int .i64 a.region, .int .i64 b.region, part_one rfl rfl rfl, part_one rfl rfl rfl, eq_int rfl⟩, List.forall_mem_cons.2 ⟨⟨by decide, .int .i64 a.epoch, .int .i64 b.epoch, part_one rfl rfl rfl, part_one rfl rfl rfl, eq_int rfl⟩, List.forall_mem_cons.2 ⟨⟨by decide, .int .i64 a.size, .int .i64 b.size, part_one rfl rfl rfl, part_one rfl rfl rfl, eq_int rfl⟩, List.forall_mem_cons.2 ⟨⟨by decide, .agg (rowE w8 32 a.root).toArray, .agg (rowE w8 32 b.root).toArray, part_cells (n := 32) rfl rfl rfl rfl rfl, part_cells (n := 32) rfl rfl rfl rfl rfl, eq_bytes rfl rfl rfl⟩, List.forall_mem_cons.2 ⟨⟨by decide, .int .i64 a.tick, .int .i64 b.tick, part_one rfl rfl rfl, part_one rfl rfl rfl, eq_int rfl⟩, fun _ h => absurd h (by simp)⟩⟩⟩⟩⟩)
theorem eql_Head {x y : Operand} (a b : Head) : binD Tryd.prog .eql 28 x y (headV a) (headV b) = some (.bool (eqHead a b)) := eql_agg (by kernel_rfl) (by kernel_rfl) (eq_Head a b (d := 9997))
theorem eqHead_refl (a : Head) : eqHead a a = true := by simp [eqHead, sameB]
def eqSigned (a b : Signed) : Bool := ((eqHead a.head b.head) && ((a.node == b.node) && ((sameB 32 a.tag b.tag) && true)))
theorem eq_Signed (a b : Signed) {d : Nat} : evalPure Tryd.prog (Op.equalIn (d + 4) 30 (signedV a) (signedV b)) = some (eqSigned a b) :=
  eqS (P := Tryd.prog) (d + 3) 30 _ (signedC a).toArray (signedC b).toArray (fun f => if f.offset = 0 then (eqHead a.head b.head) else if f.offset = 36 then (a.node == b.node) else if f.offset = 37 then (sameB 32 a.tag b.tag) else true) rfl (by kernel_rfl) (List.forall_mem_cons.2 ⟨⟨by decide, headV a.head, headV b.head, part_cells (n := 36) rfl rfl rfl rfl rfl, part_cells (n := 36) rfl rfl rfl rfl rfl, eq_Head a.head b.head⟩, List.forall_mem_cons.2 ⟨⟨by decide, .int .i64 a.node, .int .i64 b.node, part_one rfl rfl rfl, part_one rfl rfl rfl, eq_int rfl⟩, List.forall_mem_cons.2 ⟨⟨by decide, .agg (rowE w8 32 a.tag).toArray, .agg (rowE w8 32 b.tag).toArray, part_cells (n := 32) rfl rfl rfl rfl rfl, part_cells (n := 32) rfl rfl rfl rfl rfl, eq_bytes rfl rfl rfl⟩, fun _ h => absurd h (by simp)⟩⟩⟩)
theorem eql_Signed {x y : Operand} (a b : Signed) : binD Tryd.prog .eql 30 x y (signedV a) (signedV b) = some (.bool (eqSigned a b)) := eql_agg (by kernel_rfl) (by kernel_rfl) (eq_Signed a b (d := 9996))
theorem eqSigned_refl (a : Signed) : eqSigned a a = true := by simp [eqSigned, sameB, eqHead_refl]
def okHead (a : Head) : Prop := (-9223372036854775808 ≤ a.region ∧ a.region ≤ 9223372036854775807) ∧ (-9223372036854775808 ≤ a.epoch ∧ a.epoch ≤ 9223372036854775807) ∧ (-9223372036854775808 ≤ a.size ∧ a.size ≤ 9223372036854775807) ∧ True ∧ (-9223372036854775808 ≤ a.tick ∧ a.tick ≤ 9223372036854775807) ∧ True
theorem opens_Head : Opens Tryd.prog 28 headC okHead := by
  intro H encH W fuel cs x h
  obtain ⟨xs, n, _, _, hl, hxl, hel⟩ := DataW.trod_struct (P := Tryd.prog) (t := 28) (fs := _) rfl h
  have hl' : cs.length = 36 := hl.trans (by kernel_rfl)
  obtain ⟨a0, e0, k0⟩ := Opens.at_ (t := 3) (off := 0) (k := 1) (Opens.int (by kernel_rfl)) (hel 0 _ rfl) (by rw [hxl]; decide) rfl (by kernel_rfl) rfl
  have q0 : cs.drop 0 = [.int .i64 a0] ++ cs.drop 1 := by rw [cut_cells 0 1, e0]
  obtain ⟨a1, e1, k1⟩ := Opens.at_ (t := 3) (off := 1) (k := 1) (Opens.int (by kernel_rfl)) (hel 1 _ rfl) (by rw [hxl]; decide) rfl (by kernel_rfl) rfl
  have q1 : cs.drop 1 = [.int .i64 a1] ++ cs.drop 2 := by rw [cut_cells 1 1, e1]
  obtain ⟨a2, e2, k2⟩ := Opens.at_ (t := 3) (off := 2) (k := 1) (Opens.int (by kernel_rfl)) (hel 2 _ rfl) (by rw [hxl]; decide) rfl (by kernel_rfl) rfl
  have q2 : cs.drop 2 = [.int .i64 a2] ++ cs.drop 3 := by rw [cut_cells 2 1, e2]
  obtain ⟨a3, e3, k3⟩ := Opens.at_ (t := 26) (off := 3) (k := 32) (Opens.bytes (n := 32) (tb := 5) (by kernel_rfl) (by kernel_rfl) (by kernel_rfl) (by kernel_rfl)) (hel 3 _ rfl) (by rw [hxl]; decide) rfl (by kernel_rfl) rfl
  have q3 : cs.drop 3 = rowE w8 32 a3 ++ cs.drop 35 := by rw [cut_cells 3 32, e3]
  obtain ⟨a4, e4, k4⟩ := Opens.at_ (t := 3) (off := 35) (k := 1) (Opens.int (by kernel_rfl)) (hel 4 _ rfl) (by rw [hxl]; decide) rfl (by kernel_rfl) rfl
  have q4 : cs.drop 35 = [.int .i64 a4] ++ cs.drop 36 := by rw [cut_cells 35 1, e4]
  have qe : cs.drop 36 = [] := List.drop_of_length_le (by omega)
  refine ⟨⟨a0, a1, a2, a3, a4⟩, ?_, k0, k1, k2, k3, k4, trivial⟩
  rw [List.drop_zero] at q0
  rw [q0, q1, q2, q3, q4, qe]
  simp [headC]
def okSigned (a : Signed) : Prop := okHead a.head ∧ (-9223372036854775808 ≤ a.node ∧ a.node ≤ 9223372036854775807) ∧ True ∧ True
theorem opens_Signed : Opens Tryd.prog 30 signedC okSigned := by
  intro H encH W fuel cs x h
  obtain ⟨xs, n, _, _, hl, hxl, hel⟩ := DataW.trod_struct (P := Tryd.prog) (t := 30) (fs := _) rfl h
  have hl' : cs.length = 69 := hl.trans (by kernel_rfl)
  obtain ⟨a0, e0, k0⟩ := Opens.at_ (t := 28) (off := 0) (k := 36) (opens_Head) (hel 0 _ rfl) (by rw [hxl]; decide) rfl (by kernel_rfl) rfl
  have q0 : cs.drop 0 = headC a0 ++ cs.drop 36 := by rw [cut_cells 0 36, e0]
  obtain ⟨a1, e1, k1⟩ := Opens.at_ (t := 3) (off := 36) (k := 1) (Opens.int (by kernel_rfl)) (hel 1 _ rfl) (by rw [hxl]; decide) rfl (by kernel_rfl) rfl
  have q1 : cs.drop 36 = [.int .i64 a1] ++ cs.drop 37 := by rw [cut_cells 36 1, e1]
  obtain ⟨a2, e2, k2⟩ := Opens.at_ (t := 26) (off := 37) (k := 32) (Opens.bytes (n := 32) (tb := 5) (by kernel_rfl) (by kernel_rfl) (by kernel_rfl) (by kernel_rfl)) (hel 2 _ rfl) (by rw [hxl]; decide) rfl (by kernel_rfl) rfl
  have q2 : cs.drop 37 = rowE w8 32 a2 ++ cs.drop 69 := by rw [cut_cells 37 32, e2]
  have qe : cs.drop 69 = [] := List.drop_of_length_le (by omega)
  refine ⟨⟨a0, a1, a2⟩, ?_, k0, k1, k2, trivial⟩
  rw [List.drop_zero] at q0
  rw [q0, q1, q2, qe]
  simp [signedC]
end Go.Flat
