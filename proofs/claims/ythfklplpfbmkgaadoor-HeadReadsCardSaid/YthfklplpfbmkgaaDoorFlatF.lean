/- Boxes, rows by a code, loads of parts; no condition. -/
import Derived.Test.YthfklplpfbmkgaaDoorFlatE
section
/- Boxes, rows by a code, the loads that sx prints. -/
set_option linter.unusedVariables false
set_option linter.unusedSimpArgs false
namespace Go.Flat
def bxB (n : Nat) (l : List Value) : Blk := { cells := l, sz := n, wr := true, fix := true, mv := false, pur := true }
def rfB (v : Value) : Blk := { cells := [v], sz := 1, wr := true, fix := true, mv := false, pur := false }
structure Cod (α : Type) where
  enc : α → List Value
  n : Nat
  len : ∀ x, (enc x).length = n
  pos : 0 < n
def Cod.row {α : Type} (c : Cod α) (l : List α) : List Value := (l.map c.enc).flatten
def rwB {α : Type} (c : Cod α) (l : List α) : Blk := { cells := c.row l, sz := c.n, wr := true, fix := false, mv := true, pur := true }
def rwR {α : Type} (c : Cod α) (l : List α) : Blk := { cells := c.row l, sz := c.n, wr := false, fix := false, mv := true, pur := true }
theorem CallL.res {P : Program} {G : Glob} {f : FuncId} {a : List Value} {σ σ' : List Blk} {r r' : Value} (h : CallL P G f a σ r σ') (e : r = r') : CallL P G f a σ r' σ' := e ▸ h
section
variable {α : Type} (c : Cod α)
theorem Cod.row_len (l : List α) : (c.row l).length = l.length * c.n := by
  induction l with
  | nil => simp [Cod.row]
  | cons x l ih =>
    unfold Cod.row at ih ⊢
    rw [List.map_cons, List.flatten_cons, List.length_append, ih, c.len, List.length_cons, Nat.add_mul, Nat.one_mul, Nat.add_comm]
theorem Cod.row_app (l m : List α) : c.row (l ++ m) = c.row l ++ c.row m := by simp [Cod.row]
theorem Cod.row_drop (l : List α) : ∀ i, (c.row l).drop (i * c.n) = c.row (l.drop i) := by
  induction l with
  | nil => intro i; simp [Cod.row]
  | cons x l ih =>
    intro i
    cases i with
    | zero => simp
    | succ i =>
      rw [show c.row (x :: l) = c.enc x ++ c.row l from by simp [Cod.row], show (i + 1) * c.n = (c.enc x).length + i * c.n from by rw [c.len, Nat.add_mul, Nat.one_mul, Nat.add_comm], List.drop_length_add_append, ih]
      simp
theorem Cod.at_ [Inhabited α] {l : List α} {i : Nat} (h : i < l.length) : ((c.row l).drop (i * c.n)).take c.n = c.enc (l.getD i default) := by
  rw [c.row_drop, List.drop_eq_getElem_cons h, show c.row (l[i] :: l.drop (i + 1)) = c.enc l[i] ++ c.row (l.drop (i + 1)) from by unfold Cod.row; rw [List.map_cons, List.flatten_cons]]
  rw [List.take_append_of_le_length (by rw [c.len]; exact Nat.le_refl _), List.take_of_length_le (by rw [c.len]; exact Nat.le_refl _), List.getD_eq_getElem?_getD, List.getElem?_eq_getElem h]; rfl
theorem Cod.cell [Inhabited α] {l : List α} {i k : Nat} (h : i < l.length) (hk : k < c.n) : (c.row l)[i * c.n + k]? = (c.enc (l.getD i default))[k]? := by
  rw [← c.at_ h, List.getElem?_take, if_pos hk, List.getElem?_drop]
variable {P : Program} {G : Glob} {t : TypeId} {H : List Blk} {b : Nat} {blk : Blk} {c}
theorem load_rw [Inhabited α] (c : Cod α) {l : List α} {i o m n : Nat} (hm : m = c.n) (hk : kindA P t = some (true, m)) (hb : H[b]? = some blk) (hc : blk.cells = c.row l) (hi : i < l.length) (ho : o = i * m) : loadA P G t H (.pointer (some ⟨b, o, none⟩)) = some (.agg (c.enc (l.getD i default)).toArray) := by
  subst hm; subst ho
  refine loadA_agg hk hb ?_ (by rw [hc]; exact c.at_ hi)
  rw [hc, c.row_len]
  have := Nat.mul_le_mul_right c.n (Nat.succ_le_of_lt hi)
  rw [Nat.succ_mul] at this
  exact this
theorem load_fld1 [Inhabited α] (c : Cod α) {l : List α} {i o k m n : Nat} {v : Value} (hm : m = c.n) (hk : kindA P t = some (false, n)) (hb : H[b]? = some blk) (hc : blk.cells = c.row l) (hi : i < l.length) (ho : o = i * m + k) (hv : (c.enc (l.getD i default))[k]? = some v) (h2 : oneC v = true) : loadA P G t H (.pointer (some ⟨b, o, none⟩)) = some v := by
  subst hm; subst ho
  refine loadA_at hk hb ?_ h2
  have hkn : k < c.n := by
    have := (List.getElem?_eq_some_iff.1 hv).1
    rw [c.len] at this; exact this
  rw [hc, c.cell hi hkn, hv]
end
section
variable {P : Program} {t : TypeId} {x y : Operand}
theorem eqlW {k : IntKind} {w : Nat} {a b : BitVec w} : binD P .eql t x y (.int k (a.toNat : Int)) (.int k (b.toNat : Int)) = some (.bool (a == b)) := by
  rw [bin_eql]
  congr 2
  rw [Bool.eq_iff_iff, beq_iff_eq, decide_eq_true_iff, BitVec.toNat_inj.symm]; omega
theorem neqW {k : IntKind} {w : Nat} {a b : BitVec w} : binD P .neq t x y (.int k (a.toNat : Int)) (.int k (b.toNat : Int)) = some (.bool (!(a == b))) := by
  rw [bin_neq]
  congr 2
  rw [Bool.eq_iff_iff, Bool.not_eq_true', beq_eq_false_iff_ne, decide_eq_true_iff, ne_eq, ne_eq, BitVec.toNat_inj.symm]; omega
end
end Go.Flat
end
