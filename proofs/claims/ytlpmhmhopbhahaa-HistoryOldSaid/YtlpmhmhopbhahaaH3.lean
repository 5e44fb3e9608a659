/- Walks and plain laws: what each theorem says, within the bounds that it names. -/
import Derived.Test.YtlpmhmhopbhahaaH2
set_option linter.unusedVariables false
set_option linter.unusedSimpArgs false
set_option maxRecDepth 20000
set_option maxRecDepth 20000
namespace Go.Flat
open Go.Proofs
variable {G : Glob}
theorem fldB_len (f : Field) : (fldB f).length = f.data.size + 4 := by simp [fldB, bl_len]
theorem mayE_size {f : Field} {last : Int} (h : mayE f last = 0) : f.data.size ≤ 65536 := by
  unfold mayE at h
  split at h
  · omega
  · split at h
    · omega
    · split at h <;> omega
def layF : List Field → Int → Bs → Bs × Int
  | [], _, acc => (acc, 0)
  | f :: fs, last, acc => if mayE f last = 0 then layF fs f.tag (acc ++ fldB f) else ([], mayE f last)
theorem drop_getD {α : Type} [Inhabited α] {l : List α} {i : Nat} (h : i < l.length) : l.drop i = l.getD i default :: l.drop (i + 1) := by
  rw [List.drop_eq_getElem_cons h, List.getD_eq_getElem?_getD, List.getElem?_eq_getElem h]; rfl
theorem layF_step {fs : List Field} {i : Nat} {last : Int} {acc : Bs} {R : Bs × Int} (hR : layF (fs.drop i) last acc = R) (hi : i < fs.length) (hm : mayE (fs.getD i default) last = 0) : layF (fs.drop (i + 1)) (fs.getD i default).tag (acc ++ fldB (fs.getD i default)) = R := by
  rw [drop_getD hi, layF, if_pos hm] at hR; exact hR
theorem layF_bad {fs : List Field} {i : Nat} {last : Int} {acc : Bs} {R : Bs × Int} (hR : layF (fs.drop i) last acc = R) (hi : i < fs.length) (hm : mayE (fs.getD i default) last ≠ 0) : R = ([], mayE (fs.getD i default) last) := by
  rw [drop_getD hi, layF, if_neg hm] at hR; exact hR.symm
def valL : Bs → Nat → Int × Int
  | [], n => ((n : Nat), 0)
  | x :: l, n => if 18014398509481983 < n then (0, 11) else valL l (n * 256 + x.toNat)
def valS (s : ByteArray) : Int × Int := if 8 < s.size ∨ (1 ≤ s.size ∧ ((bl s).getD 0 0 == 0#8) = true) then (0, 11) else valL (bl s) 0
theorem valL_step {l : Bs} {j v w : Nat} {R : Int × Int} (hR : valL (l.drop j) v = R) (hj : j < l.length) (hv : v ≤ 18014398509481983) (hw : w = 256 * v + (l.getD j 0).toNat := by rfl) : valL (l.drop (j + 1)) w = R := by
  have e : l.drop j = l.getD j 0 :: l.drop (j + 1) := drop_getD (α := BitVec 8) hj
  subst hw
  rw [e, valL, if_neg (by omega), Nat.mul_comm] at hR
  exact hR
theorem valL_bad {l : Bs} {j v : Nat} {R : Int × Int} (hR : valL (l.drop j) v = R) (hj : j < l.length) (hv : 18014398509481983 < v) : R = (0, 11) := by
  have e : l.drop j = l.getD j 0 :: l.drop (j + 1) := drop_getD (α := BitVec 8) hj
  rw [e, valL, if_pos hv] at hR
  exact hR.symm
theorem valS_ok {s : ByteArray} {R : Int × Int} (h1 : s.size ≤ 8) (h2 : 1 ≤ s.size → ((bl s).getD 0 0 == 0#8) = false) (h : valL (bl s) 0 = R) : valS s = R := by
  unfold valS
  rw [if_neg, h]
  rintro (h | ⟨h, h'⟩)
  · omega
  · rw [h2 h] at h'; cases h'
theorem valS_bad {s : ByteArray} (h : 8 < s.size ∨ (1 ≤ s.size ∧ ((bl s).getD 0 0 == 0#8) = true)) : valS s = (0, 11) := if_pos h
end Go.Flat
