/- Walks and plain laws: what each theorem says, within the bounds that it names. -/
import Derived.Test.YtoheeojjdpdljaaDoorH6
set_option linter.unusedVariables false
set_option linter.unusedSimpArgs false
set_option maxRecDepth 20000
set_option maxRecDepth 20000
namespace Go.Flat
open Go.Proofs
variable {G : Glob}
theorem fldB_len' (k : Int) (s : ByteArray) : (fldB ⟨k, s⟩).length = s.size + 4 := fldB_len _
def beL : Nat → Nat → Bs → Bs
  | 0, _, l => l
  | f + 1, n, l => if n = 0 then l else beL f (n / 256) (BitVec.ofInt 8 (n : Int) :: l)
theorem beL_zero (f : Nat) (l : Bs) : beL f 0 l = l := by cases f <;> simp [beL]
theorem rowL_drop_upd (b : D) (a : Nat) (x : BitVec 8) (h : a < 8) : (rowL 8 (updN b a x)).drop a = x :: (rowL 8 b).drop (a + 1) := by
  apply List.ext_getElem?
  intro i
  cases i with
  | zero => simp [rowL, updN, h]
  | succ i =>
    simp only [List.getElem?_drop, List.getElem?_cons_succ, rowL, List.getElem?_map]
    by_cases hi : a + 1 + i < 8
    · rw [show a + (i + 1) = a + 1 + i by omega, List.getElem?_range hi]
      simp only [Option.map_some, updN]
      rw [if_neg (by omega)]
    · rw [show a + (i + 1) = a + 1 + i by omega, List.getElem?_eq_none (by simp; omega)]; rfl
theorem numF_beL : ∀ (a n : Nat) (b : D), a ≤ 8 → numF a n a b = beL a n ((rowL 8 b).drop a)
  | 0, n, b, _ => by rw [numF, beL]
  | a + 1, n, b, h => by
    rw [numF, beL]
    split
    · rfl
    · rw [Nat.add_sub_cancel, numF_beL a _ _ (by omega), rowL_drop_upd b a _ (by omega)]
theorem numF_be (m : Nat) : numF 8 m 8 dz = beL 8 m [] := by
  rw [numF_beL 8 m dz (by omega), List.drop_of_length_le (by rw [rowL_len]; omega)]
def rowX : Nat → List ByteArray → Bs
  | _, [] => []
  | k, x :: l => fldB ⟨(k : Int) + 1, x⟩ ++ rowX (k + 1) l
theorem mayE_zero {f : Field} {last : Int} (h1 : last < f.tag) (h2 : f.tag ≤ 255) (h3 : f.data.size ≤ 65536) : mayE f last = 0 := by
  unfold mayE
  rw [if_neg (by omega), if_neg (by omega), if_neg (by omega)]
theorem layF_rowX : ∀ (ls : List ByteArray) (k : Nat) (acc : Bs), k + ls.length ≤ 255 → (∀ x, x ∈ ls → x.size ≤ 65536) → layF (rowF k ls) (k : Nat) acc = (acc ++ rowX k ls, 0)
  | [], k, acc, _, _ => by simp [layF, rowF, rowX]
  | x :: l, k, acc, h, hs => by
    simp only [List.length_cons] at h
    rw [rowF, layF, if_pos (mayE_zero (by dsimp only; omega) (by dsimp only; omega) (hs x (by simp))), rowX]
    have := layF_rowX l (k + 1) (acc ++ fldB ⟨(k : Int) + 1, x⟩) (by omega) (fun y hy => hs y (by simp [hy]))
    rw [show (((k + 1 : Nat)) : Int) = (k : Int) + 1 by omega] at this
    rw [this, List.append_assoc]
theorem bytesR_X (ls : List ByteArray) (h : ls.length ≤ 255) (hs : ∀ x, x ∈ ls → x.size ≤ 65536) : bytesR ls = rowX 0 ls := by
  have := layF_rowX ls 0 [] (by omega) hs
  unfold bytesR
  rw [show (0 : Int) = ((0 : Nat) : Int) from rfl, this, List.nil_append]
theorem getD_size {ls : List ByteArray} {m : Nat} (hs : ∀ x, x ∈ ls → x.size ≤ m) (i : Nat) : (ls.getD i ⟨#[]⟩).size ≤ m := by
  rw [List.getD_eq_getElem?_getD]
  cases h : ls[i]? with
  | none => show 0 ≤ m; omega
  | some x => exact hs x (List.mem_of_getElem? h)
end Go.Flat
