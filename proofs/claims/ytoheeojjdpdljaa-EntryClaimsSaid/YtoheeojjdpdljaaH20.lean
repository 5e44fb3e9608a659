/- Walks and plain laws: what each theorem says, within the bounds that it names. -/
import Derived.Test.YtoheeojjdpdljaaH19
set_option linter.unusedVariables false
set_option linter.unusedSimpArgs false
set_option maxRecDepth 20000
set_option maxRecDepth 20000
namespace Go.Flat
open Go.Proofs
variable {G : Glob}
def getS (l : Bs) : Signed × Int :=
  if (((((((ofF l).1) && decide ((pK ((ofF l).2.length) 0) < ((ofF l).2.length))) && decide ((pK ((ofF l).2.length) 1) < ((ofF l).2.length))) && decide ((valS (((ofF l).2).getD (pK ((ofF l).2.length) 1) ⟨#[]⟩)).2 = 0)) && decide ((pK ((ofF l).2.length) 2) < ((ofF l).2.length))) && decide ((((ofF l).2).getD (pK ((ofF l).2.length) 2) ⟨#[]⟩).size = 32)) = true then (if (((getH (bl (((ofF l).2).getD (pK ((ofF l).2.length) 0) ⟨#[]⟩))).2)) ≠ 0 then ((⟨(⟨0, 0, 0, dz, 0⟩ : Head), 0, dz⟩ : Signed), 70) else
  if 0 < (((remP ((ofF l).2.length) (pK ((ofF l).2.length) 3)) : Nat) : Int) then ((⟨(⟨0, 0, 0, dz, 0⟩ : Head), 0, dz⟩ : Signed), 70) else
  if 1 ≤ (((valS (((ofF l).2).getD (pK ((ofF l).2.length) 1) ⟨#[]⟩)).1)) then (if (((valS (((ofF l).2).getD (pK ((ofF l).2.length) 1) ⟨#[]⟩)).1)) ≤ 3 then ((⟨(getH (bl (((ofF l).2).getD (pK ((ofF l).2.length) 0) ⟨#[]⟩))).1, (((valS (((ofF l).2).getD (pK ((ofF l).2.length) 1) ⟨#[]⟩)).1)), (digD ((((((ofF l).1) && decide ((pK ((ofF l).2.length) 0) < ((ofF l).2.length))) && decide ((pK ((ofF l).2.length) 1) < ((ofF l).2.length))) && decide ((valS (((ofF l).2).getD (pK ((ofF l).2.length) 1) ⟨#[]⟩)).2 = 0)) && decide ((pK ((ofF l).2.length) 2) < ((ofF l).2.length))) (((ofF l).2).getD (pK ((ofF l).2.length) 2) ⟨#[]⟩))⟩ : Signed), 0) else
  ((⟨(⟨0, 0, 0, dz, 0⟩ : Head), 0, dz⟩ : Signed), 70)) else
  ((⟨(⟨0, 0, 0, dz, 0⟩ : Head), 0, dz⟩ : Signed), 70)) else
  ((⟨(⟨0, 0, 0, dz, 0⟩ : Head), 0, dz⟩ : Signed), 70)
end Go.Flat
