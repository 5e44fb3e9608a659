/- Walks and plain laws: what each theorem says, within the bounds that it names. -/
import Derived.Test.YthfklplpfbmkgaaH19
set_option linter.unusedVariables false
set_option linter.unusedSimpArgs false
set_option maxRecDepth 20000
set_option maxRecDepth 20000
namespace Go.Flat
open Go.Proofs
variable {G : Glob}
theorem getF_size (l : Bs) (n : Nat) : (getF l n).1.data.size ≤ l.length := by
  unfold getF
  repeat' split
  all_goals first | exact Nat.zero_le _ | (dsimp only; rw [strOf_size, List.length_take, List.length_drop]; omega)
theorem readL_size (M : Nat) : ∀ (f : Nat) (l : Bs) (last : Int) (acc : List Field), l.length ≤ M → (∀ x, x ∈ acc → x.data.size ≤ M) → ∀ x, x ∈ (readL f l last acc).1 → x.data.size ≤ M
  | 0, l, last, acc, h, ha => by simpa [readL] using ha
  | f + 1, l, last, acc, h, ha => by
    rw [readL]
    split
    · exact ha
    · split
      · intro x hx; simp at hx
      · split
        · intro x hx; simp at hx
        · refine readL_size M f _ _ _ (by rw [List.length_drop]; omega) (fun x hx => ?_)
          rcases List.mem_append.1 hx with hx | hx
          · exact ha x hx
          · rw [List.mem_singleton.1 hx]; exact Nat.le_trans (getF_size _ _) h
theorem ofL_size (M : Nat) : ∀ (fs : List Field) (i : Nat) (ok : Bool) (acc : List ByteArray), (∀ x, x ∈ fs → x.data.size ≤ M) → (∀ x, x ∈ acc → x.size ≤ M) → ∀ x, x ∈ (ofL fs i ok acc).2 → x.size ≤ M
  | [], i, ok, acc, h, ha => ha
  | f :: fs, i, ok, acc, h, ha => by
    rw [ofL]
    refine ofL_size M fs _ _ _ (fun x hx => h x (by simp [hx])) (fun x hx => ?_)
    rcases List.mem_append.1 hx with hx | hx
    · exact ha x hx
    · rw [List.mem_singleton.1 hx]; exact h f (by simp)
theorem of_size {l : Bs} {M : Nat} (h : l.length ≤ M) (i : Nat) : ((ofF l).2.getD i ⟨#[]⟩).size ≤ M :=
  getD_size (ofL_size M _ _ _ _ (readL_size M _ _ _ _ h (fun x hx => by simp at hx)) (fun x hx => by simp at hx)) i
def getS (l : Bs) : Signed × Int :=
  if (((((((ofF l).1) && decide ((pK ((ofF l).2.length) 0) < ((ofF l).2.length))) && decide ((pK ((ofF l).2.length) 1) < ((ofF l).2.length))) && decide ((valS (((ofF l).2).getD (pK ((ofF l).2.length) 1) ⟨#[]⟩)).2 = 0)) && decide ((pK ((ofF l).2.length) 2) < ((ofF l).2.length))) && decide ((((ofF l).2).getD (pK ((ofF l).2.length) 2) ⟨#[]⟩).size = 32)) = true then (if (((getH (bl (((ofF l).2).getD (pK ((ofF l).2.length) 0) ⟨#[]⟩))).2)) ≠ 0 then ((⟨(⟨0, 0, 0, dz, 0⟩ : Head), 0, dz⟩ : Signed), 70) else
  if 0 < (((remP ((ofF l).2.length) (pK ((ofF l).2.length) 3)) : Nat) : Int) then ((⟨(⟨0, 0, 0, dz, 0⟩ : Head), 0, dz⟩ : Signed), 70) else
  if 1 ≤ (((valS (((ofF l).2).getD (pK ((ofF l).2.length) 1) ⟨#[]⟩)).1)) then (if (((valS (((ofF l).2).getD (pK ((ofF l).2.length) 1) ⟨#[]⟩)).1)) ≤ 3 then ((⟨(getH (bl (((ofF l).2).getD (pK ((ofF l).2.length) 0) ⟨#[]⟩))).1, (((valS (((ofF l).2).getD (pK ((ofF l).2.length) 1) ⟨#[]⟩)).1)), (digD ((((((ofF l).1) && decide ((pK ((ofF l).2.length) 0) < ((ofF l).2.length))) && decide ((pK ((ofF l).2.length) 1) < ((ofF l).2.length))) && decide ((valS (((ofF l).2).getD (pK ((ofF l).2.length) 1) ⟨#[]⟩)).2 = 0)) && decide ((pK ((ofF l).2.length) 2) < ((ofF l).2.length))) (((ofF l).2).getD (pK ((ofF l).2.length) 2) ⟨#[]⟩))⟩ : Signed), 0) else
  ((⟨(⟨0, 0, 0, dz, 0⟩ : Head), 0, dz⟩ : Signed), 70)) else
  ((⟨(⟨0, 0, 0, dz, 0⟩ : Head), 0, dz⟩ : Signed), 70)) else
  ((⟨(⟨0, 0, 0, dz, 0⟩ : Head), 0, dz⟩ : Signed), 70)
end Go.Flat
