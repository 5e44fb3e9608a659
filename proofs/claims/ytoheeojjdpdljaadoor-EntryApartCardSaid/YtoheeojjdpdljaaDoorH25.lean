/- Walks and plain laws: what each theorem says, within the bounds that it names. -/
import Derived.Test.YtoheeojjdpdljaaDoorH24
set_option linter.unusedVariables false
set_option linter.unusedSimpArgs false
set_option maxRecDepth 20000
set_option maxRecDepth 20000
namespace Go.Flat
open Go.Proofs
theorem getS_three {l : Bs} {a b c : ByteArray} {x1 : Int} {h : Head} (ho : ofF l = (true, [a, b, c])) (h0 : getH (bl a) = (h, 0)) (h1 : valS b = (x1, 0)) (h3 : c.size = 32) (hn : 1 ≤ x1 ∧ x1 ≤ 3) : getS l = (⟨h, x1, cpD c⟩, 0) := by
  have p0 : pK 3 0 = 0 := rfl
  have p1 : pK 3 1 = 1 := rfl
  have p2 : pK 3 2 = 2 := rfl
  have p3 : remP 3 (pK 3 3) = 0 := rfl
  have q0 : [a, b, c].getD 0 ⟨#[]⟩ = a := rfl
  have q1 : [a, b, c].getD 1 ⟨#[]⟩ = b := rfl
  have q2 : [a, b, c].getD 2 ⟨#[]⟩ = c := rfl
  have hl : [a, b, c].length = 3 := rfl
  have hd : digD true c = cpD c := rfl
  unfold getS
  rw [ho]
  dsimp only
  rw [hl, p0, p1, p2, p3, q0, q1, q2, h0, h1, h3]
  simp [hd, hn.1, hn.2]
theorem getS_putS {s : Signed} (hm : mayS s) : (getS (bytesR (signedL s))).2 = 0 ∧ eqSigned (getS (bytesR (signedL s))).1 s = true := by
  have ho := ofF_bytes (signedL s) (by simp [signedL]) (signedL_sz s)
  have hg := getH_putH hm.1
  have h0 : getH (bl (strOf (bytesR (headL s.head)))) = ((getH (bytesR (headL s.head))).1, 0) := by
    rw [bl_strOf, ← hg.1]
  have hn := hm.2
  have hs := getS_three (l := bytesR (signedL s)) ho h0 (valS_numS (n := s.node) (by omega) (by omega)) (by rw [strOf_size, dgL_len]) hn
  rw [hs]
  refine ⟨rfl, ?_⟩
  unfold eqSigned
  simp [cpD_dgL, hg.2]
theorem eqHead_iff (a b : Head) : eqHead a b = true ↔ a.region = b.region ∧ a.epoch = b.epoch ∧ a.size = b.size ∧ sameB 32 a.root b.root = true ∧ a.tick = b.tick := by
  simp [eqHead]
theorem dgL_same {a b : D} (h : sameB 32 a b = true) : dgL a = dgL b := by
  unfold sameB at h
  rw [List.all_eq_true] at h
  unfold dgL
  refine List.map_congr_left fun i hi => ?_
  exact beq_iff_eq.1 (h i hi)
theorem headL_same {a b : Head} (h : eqHead a b = true) : headL a = headL b := by
  obtain ⟨h1, h2, h3, h4, h5⟩ := (eqHead_iff a b).1 h
  unfold headL
  rw [h1, h2, h3, h5, dgL_same h4]
theorem sameB_symm {n : Nat} {a b : D} (h : sameB n a b = true) : sameB n b a = true := by rw [sameB_iff] at h ⊢; exact h.symm
theorem sameB_trans {n : Nat} {a b c : D} (h : sameB n a b = true) (h' : sameB n b c = true) : sameB n a c = true := by rw [sameB_iff] at h h' ⊢; exact h.trans h'
theorem eqHead_symm {a b : Head} (h : eqHead a b = true) : eqHead b a = true := by
  rw [eqHead_iff] at h ⊢
  exact ⟨h.1.symm, h.2.1.symm, h.2.2.1.symm, sameB_symm h.2.2.2.1, h.2.2.2.2.symm⟩
theorem eqHead_trans {a b c : Head} (h : eqHead a b = true) (h' : eqHead b c = true) : eqHead a c = true := by
  rw [eqHead_iff] at h h' ⊢
  exact ⟨h.1.trans h'.1, h.2.1.trans h'.2.1, h.2.2.1.trans h'.2.2.1, sameB_trans h.2.2.2.1 h'.2.2.2.1, h.2.2.2.2.trans h'.2.2.2.2⟩
theorem eqSigned_iff (a b : Signed) : eqSigned a b = true ↔ eqHead a.head b.head = true ∧ a.node = b.node ∧ sameB 32 a.tag b.tag = true := by
  simp [eqSigned]
theorem bytesS_inj {a b : Signed} (ha : mayS a) (hb : mayS b) : sameT (strOf (bytesR (signedL a))) (strOf (bytesR (signedL b))) = eqSigned a b := by
  rw [Bool.eq_iff_iff, sameT_str]
  constructor
  · intro h
    have g1 := getS_putS ha
    have g2 := getS_putS hb
    rw [h] at g1
    have q1 := (eqSigned_iff _ _).1 g1.2
    have q2 := (eqSigned_iff _ _).1 g2.2
    rw [eqSigned_iff]
    exact ⟨eqHead_trans (eqHead_symm q1.1) q2.1, q1.2.1.symm.trans q2.2.1, sameB_trans (sameB_symm q1.2.2) q2.2.2⟩
  · intro h
    obtain ⟨h1, h2, h3⟩ := (eqSigned_iff a b).1 h
    unfold signedL
    rw [headL_same h1, h2, dgL_same h3]
end Go.Flat
