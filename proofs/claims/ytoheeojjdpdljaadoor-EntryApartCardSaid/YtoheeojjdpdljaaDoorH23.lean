/- Walks and plain laws: what each theorem says, within the bounds that it names. -/
import Derived.Test.YtoheeojjdpdljaaDoorH22
set_option linter.unusedVariables false
set_option linter.unusedSimpArgs false
set_option maxRecDepth 20000
set_option maxRecDepth 20000
namespace Go.Flat
open Go.Proofs
theorem readF_bytes (ls : List ByteArray) (h : ls.length ≤ 255) (hs : ∀ x, x ∈ ls → x.size ≤ 65536) : readF (bytesR ls) = (rowF 0 ls, 0) := by
  rw [bytesR_X ls h hs]
  have := read_rowX ls 0 ((rowX 0 ls).length + 1) [] (by omega) (by omega) hs
  unfold readF
  rw [List.nil_append] at this
  exact this
theorem ofL_rowF : ∀ (ls : List ByteArray) (k : Nat) (ok : Bool) (acc : List ByteArray), ofL (rowF k ls) k ok acc = (ok, acc ++ ls)
  | [], k, ok, acc => by simp [rowF, ofL]
  | x :: l, k, ok, acc => by
    rw [rowF, ofL, ofL_rowF l (k + 1), decide_eq_true rfl, Bool.and_true, List.append_assoc]; rfl
theorem ofF_bytes (ls : List ByteArray) (h : ls.length ≤ 255) (hs : ∀ x, x ∈ ls → x.size ≤ 65536) : ofF (bytesR ls) = (true, ls) := by
  unfold ofF
  rw [readF_bytes ls h hs, ofL_rowF]; rfl
theorem valL_beL : ∀ (f n : Nat) (acc : Bs), n < 256 ^ f → n ≤ 4611686018427387903 → valL (beL f n acc) 0 = valL acc n
  | 0, n, acc, h, _ => by
    have : n = 0 := by simpa using h
    subst this; rfl
  | f + 1, n, acc, h, hn => by
    rw [beL]
    split
    · rename_i h0; subst h0; rfl
    · rw [valL_beL f (n / 256) _ (by rw [Nat.pow_succ] at h; exact Nat.div_lt_of_lt_mul (by omega)) (by omega), valL, if_neg (by omega)]
      have e := ofInt8 ((n : Nat) : Int) (by omega)
      rw [e]
      congr 1
      omega
theorem beL_head : ∀ (f n : Nat) (acc : Bs), n < 256 ^ f → 0 < n → (beL f n acc).getD 0 0 ≠ 0#8
  | 0, n, acc, h, h0 => by
    have : n = 0 := by simpa using h
    omega
  | f + 1, n, acc, h, h0 => by
    rw [beL, if_neg (by omega)]
    rcases Nat.eq_zero_or_pos (n / 256) with h1 | h1
    · rw [h1, beL_zero]
      intro hz
      have hz' : BitVec.ofInt 8 ((n : Nat) : Int) = 0#8 := hz
      have e := ofInt8 ((n : Nat) : Int) (by omega)
      rw [hz'] at e
      simp at e
      omega
    · exact beL_head f (n / 256) _ (by rw [Nat.pow_succ] at h; exact Nat.div_lt_of_lt_mul (by omega)) h1
theorem valS_numS {n : Int} (h0 : 0 ≤ n) (h1 : n ≤ 4611686018427387903) : valS (numS n).1 = (n, 0) := by
  have e : (numS n).1 = strOf (beL 8 n.toNat []) := by
    unfold numS
    rw [if_pos ⟨h0, h1⟩, numF_be]
  have hlt : n.toNat < 256 ^ 8 := by
    have : (256 : Nat) ^ 8 = 18446744073709551616 := by decide
    omega
  refine valS_ok (numS_size n) (fun hsz => ?_) ?_
  · rw [e, bl_strOf]
    rcases Nat.eq_zero_or_pos n.toNat with hz | hz
    · rw [e, strOf_size, hz, beL_zero] at hsz; simp at hsz
    · exact beq_eq_false_iff_ne.2 (beL_head 8 n.toNat [] hlt hz)
  · rw [e, bl_strOf, valL_beL 8 n.toNat [] hlt (by omega), valL]
    congr 1
    omega
theorem cpD_dgL (d : D) : sameB 32 (cpD (strOf (dgL d))) d = true := by
  unfold sameB
  rw [List.all_eq_true]
  intro i hi
  have hi' : i < 32 := by simpa using hi
  rw [beq_iff_eq]
  unfold cpD
  rw [strOf_size, dgL_len, if_pos hi', bl_strOf]
  simp [dgL, hi']
end Go.Flat
