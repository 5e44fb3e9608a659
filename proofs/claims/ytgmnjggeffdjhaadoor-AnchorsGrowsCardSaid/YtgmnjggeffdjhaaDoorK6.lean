/- Walks and plain laws: what each theorem says, within the bounds that it names. -/
import Derived.Test.YtgmnjggeffdjhaaDoorK5
import Derived.Test.YtgmnjggeffdjhaaDoorFlatE
import Derived.Tactics
import Derived.Tactics2
import Derived.Recover
import Derived.Laws.Pointers
import Derived.Test.YtgmnjggeffdjhaaDoorChecked
set_option linter.unusedVariables false
set_option linter.unusedSimpArgs false
set_option maxRecDepth 20000
namespace Go.Flat
open Go.Proofs
theorem caught_ok : CatchOK Tryd.prog 53 41 (.int .i64 40) := by
  constructor
  · intro p u pv w w' h
    refine callsD_of_wpS (fn := Tryd.f53) rfl rfl fun c₀ cs hu => ?_
    apply wpS_seq
    apply wpS_region
    simp [wpOpsS, go_sem, recoverD, hu, Exit.thenS, Tryd.f53]
    apply wpS_seq
    apply wpS_region
    simp [wpOpsS, go_sem, Exit.thenS, Act.eval, Act.put]
    refine wpS_cond (t := true) (by simp [Act.eval, Array.replicate]) ?_
    simp only [if_true]
    apply wpS_region
    simp [go_sem] at h
    simp [wpOpsS, go_sem, h, bodyPostS, results, Oper.upon]
  · intro p w
    refine callsD_of_wpS (fn := Tryd.f53) rfl rfl fun c₀ cs hu => ?_
    apply wpS_seq
    apply wpS_region
    simp [wpOpsS, go_sem, recoverD, hu, Exit.thenS, Tryd.f53]
    apply wpS_seq
    apply wpS_region
    simp [wpOpsS, go_sem, Exit.thenS, Act.eval, Act.put]
    refine wpS_cond (t := false) (by simp [Act.eval, Array.replicate]) ?_
    simp only [Bool.false_eq_true, if_false]
    refine wpS_of_wp (wp_skip ?_)
    cases c₀
    simp_all [bodyPostS, results]
end Go.Flat
