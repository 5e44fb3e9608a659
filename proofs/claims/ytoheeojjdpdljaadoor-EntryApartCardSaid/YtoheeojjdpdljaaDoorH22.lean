/- Walks and plain laws: what each theorem says, within the bounds that it names. -/
import Derived.Test.YtoheeojjdpdljaaDoorH20
set_option linter.unusedVariables false
set_option linter.unusedSimpArgs false
set_option maxRecDepth 20000
set_option maxRecDepth 20000
namespace Go.Flat
open Go.Proofs

theorem ofInt8 (z : Int) (h0 : 0 ≤ z) : (BitVec.ofInt 8 z).toNat = z.toNat % 256 := by
  obtain ⟨n, rfl⟩ : ∃ n : Nat, z = n := ⟨z.toNat, by omega⟩
  rw [BitVec.ofInt_natCast, BitVec.toNat_ofNat]; rfl
theorem getF_fld (f : Field) (rest : Bs) (h1 : 1 ≤ f.tag) (h2 : f.tag ≤ 255) (h3 : f.data.size ≤ 65536) (n : Nat) (hn : n = f.data.size + 4 + rest.length) : getF (fldB f ++ rest) n = (f, (f.data.size : Int) + 4, 0) := by
  have e : fldB f ++ rest = BitVec.ofInt 8 f.tag :: BitVec.ofInt 8 (f.data.size / 65536 : Nat) :: BitVec.ofInt 8 (f.data.size / 256 : Nat) :: BitVec.ofInt 8 (f.data.size : Nat) :: (bl f.data ++ rest) := rfl
  rw [e]
  unfold getF
  have g0 : (BitVec.ofInt 8 f.tag :: BitVec.ofInt 8 (f.data.size / 65536 : Nat) :: BitVec.ofInt 8 (f.data.size / 256 : Nat) :: BitVec.ofInt 8 (f.data.size : Nat) :: (bl f.data ++ rest)).getD 0 0 = BitVec.ofInt 8 f.tag := rfl
  have g1 : (BitVec.ofInt 8 f.tag :: BitVec.ofInt 8 (f.data.size / 65536 : Nat) :: BitVec.ofInt 8 (f.data.size / 256 : Nat) :: BitVec.ofInt 8 (f.data.size : Nat) :: (bl f.data ++ rest)).getD 1 0 = BitVec.ofInt 8 (f.data.size / 65536 : Nat) := rfl
  have g2 : (BitVec.ofInt 8 f.tag :: BitVec.ofInt 8 (f.data.size / 65536 : Nat) :: BitVec.ofInt 8 (f.data.size / 256 : Nat) :: BitVec.ofInt 8 (f.data.size : Nat) :: (bl f.data ++ rest)).getD 2 0 = BitVec.ofInt 8 (f.data.size / 256 : Nat) := rfl
  have g3 : (BitVec.ofInt 8 f.tag :: BitVec.ofInt 8 (f.data.size / 65536 : Nat) :: BitVec.ofInt 8 (f.data.size / 256 : Nat) :: BitVec.ofInt 8 (f.data.size : Nat) :: (bl f.data ++ rest)).getD 3 0 = BitVec.ofInt 8 (f.data.size : Nat) := rfl
  have t0 := ofInt8 f.tag (by omega)
  have t1 := ofInt8 ((f.data.size / 65536 : Nat) : Int) (by omega)
  have t2 := ofInt8 ((f.data.size / 256 : Nat) : Int) (by omega)
  have t3 := ofInt8 ((f.data.size : Nat) : Int) (by omega)
  rw [g0, g1, g2, g3, t0, t1, t2, t3]
  have hs : 65536 * (((f.data.size / 65536 : Nat) : Int).toNat % 256) + 256 * (((f.data.size / 256 : Nat) : Int).toNat % 256) + ((f.data.size : Nat) : Int).toNat % 256 = f.data.size := by omega
  rw [if_neg (by omega), if_neg (by
    rw [beq_iff_eq]
    intro h
    have := congrArg BitVec.toNat h
    rw [t0] at this
    simp at this
    omega), if_neg (by omega), if_neg (by omega)]
  rw [hs]
  have e4 : ((BitVec.ofInt 8 f.tag :: BitVec.ofInt 8 (f.data.size / 65536 : Nat) :: BitVec.ofInt 8 (f.data.size / 256 : Nat) :: BitVec.ofInt 8 (f.data.size : Nat) :: (bl f.data ++ rest)).drop 4).take f.data.size = bl f.data := by
    show (bl f.data ++ rest).take f.data.size = bl f.data
    rw [List.take_append_of_le_length (by rw [bl_len]; exact Nat.le_refl _), List.take_of_length_le (by rw [bl_len]; exact Nat.le_refl _)]
  rw [e4, strOf_bl]
  have et : ((f.tag.toNat % 256 : Nat) : Int) = f.tag := by omega
  rw [et]
  have ez : 65536 * ((((f.data.size / 65536 : Nat) : Int).toNat % 256 : Nat) : Int) + 256 * ((((f.data.size / 256 : Nat) : Int).toNat % 256 : Nat) : Int) + ((((f.data.size : Nat) : Int).toNat % 256 : Nat) : Int) + 4 = (f.data.size : Int) + 4 := by omega
  rw [ez]
theorem read_rowX : ∀ (ls : List ByteArray) (k f : Nat) (acc : List Field), (rowX k ls).length < f → k + ls.length ≤ 255 → (∀ x, x ∈ ls → x.size ≤ 65536) → readL f (rowX k ls) (k : Nat) acc = (acc ++ rowF k ls, 0)
  | [], k, f, acc, hf, h, hs => by
    cases f with
    | zero => omega
    | succ f => rw [readL]; simp [rowX, rowF]
  | x :: l, k, f, acc, hf, h, hs => by
    simp only [List.length_cons] at h
    have hx := hs x (by simp)
    cases f with
    | zero => omega
    | succ f =>
      have hlen : (rowX k (x :: l)).length = x.size + 4 + (rowX (k + 1) l).length := by rw [rowX, List.length_append, fldB_len']
      have hg := getF_fld ⟨(k : Int) + 1, x⟩ (rowX (k + 1) l) (by dsimp only; omega) (by dsimp only; omega) hx (rowX k (x :: l)).length hlen
      rw [readL, if_neg (by rw [hlen]; omega)]
      rw [show rowX k (x :: l) = fldB ⟨(k : Int) + 1, x⟩ ++ rowX (k + 1) l from rfl] at hg hf ⊢
      rw [hg]
      rw [if_neg (by simp), if_neg (by dsimp only; omega)]
      have ed : (fldB ⟨(k : Int) + 1, x⟩ ++ rowX (k + 1) l).drop ((x.size : Int) + 4).toNat = rowX (k + 1) l := by
        have : ((x.size : Int) + 4).toNat = (fldB ⟨(k : Int) + 1, x⟩).length := by rw [fldB_len']; omega
        rw [this, List.drop_left]
      show readL f ((fldB ⟨(k : Int) + 1, x⟩ ++ rowX (k + 1) l).drop ((x.size : Int) + 4).toNat) ((k : Int) + 1) (acc ++ [⟨(k : Int) + 1, x⟩]) = _
      rw [ed]
      have := read_rowX l (k + 1) f (acc ++ [⟨(k : Int) + 1, x⟩]) (by rw [List.length_append, fldB_len'] at hf; omega) (by omega) (fun y hy => hs y (by simp [hy]))
      rw [show (((k + 1 : Nat)) : Int) = (k : Int) + 1 by omega] at this
      rw [this, List.append_assoc]; rfl
end Go.Flat
