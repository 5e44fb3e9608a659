/- Walks and plain laws: what each theorem says, within the bounds that it names. -/
import Derived.Test.YtoheeojjdpdljaaH18
set_option linter.unusedVariables false
set_option linter.unusedSimpArgs false
set_option maxRecDepth 20000
set_option maxRecDepth 20000
namespace Go.Flat
open Go.Proofs
variable {G : Glob}
def pK (L : Nat) : Nat → Nat
  | 0 => 0
  | k + 1 => nxP L (pK L k)
def getH (l : Bs) : Head × Int :=
  if ((((((((((((ofF l).1) && decide ((pK ((ofF l).2.length) 0) < ((ofF l).2.length))) && decide ((valS (((ofF l).2).getD (pK ((ofF l).2.length) 0) ⟨#[]⟩)).2 = 0)) && decide ((pK ((ofF l).2.length) 1) < ((ofF l).2.length))) && decide ((valS (((ofF l).2).getD (pK ((ofF l).2.length) 1) ⟨#[]⟩)).2 = 0)) && decide ((pK ((ofF l).2.length) 2) < ((ofF l).2.length))) && decide ((valS (((ofF l).2).getD (pK ((ofF l).2.length) 2) ⟨#[]⟩)).2 = 0)) && decide ((pK ((ofF l).2.length) 3) < ((ofF l).2.length))) && decide ((((ofF l).2).getD (pK ((ofF l).2.length) 3) ⟨#[]⟩).size = 32)) && decide ((pK ((ofF l).2.length) 4) < ((ofF l).2.length))) && decide ((valS (((ofF l).2).getD (pK ((ofF l).2.length) 4) ⟨#[]⟩)).2 = 0)) = true then (if 0 < (((remP ((ofF l).2.length) (pK ((ofF l).2.length) 5)) : Nat) : Int) then ((⟨0, 0, 0, dz, 0⟩ : Head), 70) else
  if ((checkE (⟨(((valS (((ofF l).2).getD (pK ((ofF l).2.length) 0) ⟨#[]⟩)).1)), (((valS (((ofF l).2).getD (pK ((ofF l).2.length) 1) ⟨#[]⟩)).1)), (((valS (((ofF l).2).getD (pK ((ofF l).2.length) 2) ⟨#[]⟩)).1)), (digD (((((((((ofF l).1) && decide ((pK ((ofF l).2.length) 0) < ((ofF l).2.length))) && decide ((valS (((ofF l).2).getD (pK ((ofF l).2.length) 0) ⟨#[]⟩)).2 = 0)) && decide ((pK ((ofF l).2.length) 1) < ((ofF l).2.length))) && decide ((valS (((ofF l).2).getD (pK ((ofF l).2.length) 1) ⟨#[]⟩)).2 = 0)) && decide ((pK ((ofF l).2.length) 2) < ((ofF l).2.length))) && decide ((valS (((ofF l).2).getD (pK ((ofF l).2.length) 2) ⟨#[]⟩)).2 = 0)) && decide ((pK ((ofF l).2.length) 3) < ((ofF l).2.length))) (((ofF l).2).getD (pK ((ofF l).2.length) 3) ⟨#[]⟩)), (((valS (((ofF l).2).getD (pK ((ofF l).2.length) 4) ⟨#[]⟩)).1))⟩ : Head))) ≠ 0 then ((⟨0, 0, 0, dz, 0⟩ : Head), 70) else
  ((⟨(((valS (((ofF l).2).getD (pK ((ofF l).2.length) 0) ⟨#[]⟩)).1)), (((valS (((ofF l).2).getD (pK ((ofF l).2.length) 1) ⟨#[]⟩)).1)), (((valS (((ofF l).2).getD (pK ((ofF l).2.length) 2) ⟨#[]⟩)).1)), (digD (((((((((ofF l).1) && decide ((pK ((ofF l).2.length) 0) < ((ofF l).2.length))) && decide ((valS (((ofF l).2).getD (pK ((ofF l).2.length) 0) ⟨#[]⟩)).2 = 0)) && decide ((pK ((ofF l).2.length) 1) < ((ofF l).2.length))) && decide ((valS (((ofF l).2).getD (pK ((ofF l).2.length) 1) ⟨#[]⟩)).2 = 0)) && decide ((pK ((ofF l).2.length) 2) < ((ofF l).2.length))) && decide ((valS (((ofF l).2).getD (pK ((ofF l).2.length) 2) ⟨#[]⟩)).2 = 0)) && decide ((pK ((ofF l).2.length) 3) < ((ofF l).2.length))) (((ofF l).2).getD (pK ((ofF l).2.length) 3) ⟨#[]⟩)), (((valS (((ofF l).2).getD (pK ((ofF l).2.length) 4) ⟨#[]⟩)).1))⟩ : Head), 0)) else
  ((⟨0, 0, 0, dz, 0⟩ : Head), 70)
end Go.Flat
