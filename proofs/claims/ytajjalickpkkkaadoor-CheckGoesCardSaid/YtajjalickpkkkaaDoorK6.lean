/- Walks of package check: what each function computes, for every input within the bounds that each theorem names. -/
import Derived.Test.YtajjalickpkkkaaDoorK5
import Derived.Test.YtajjalickpkkkaaDoorFlatE
import Derived.Tactics
import Derived.Tactics2
import Derived.Recover
import Derived.Laws.Pointers
import Derived.Test.YtajjalickpkkkaaDoorChecked
set_option linter.unusedVariables false
set_option linter.unusedSimpArgs false
namespace Go.Flat
open Go.Proofs
theorem caught_ok : CatchOK Tryd.prog 23 26 (.int .i64 40) := by
  constructor
  · intro p u pv w w' h
    refine callsD_of_wpS (fn := Tryd.f23) rfl rfl fun c₀ cs hu => ?_
    apply wpS_seq
    apply wpS_region
    simp [wpOpsS, go_sem, recoverD, hu, Exit.thenS, Tryd.f23]
    apply wpS_seq
    apply wpS_region
    simp [wpOpsS, go_sem, Exit.thenS, Act.eval, Act.put]
    refine wpS_cond (t := true) (by simp [Act.eval, Array.replicate]) ?_
    simp only [if_true]
    apply wpS_region
    simp [go_sem] at h
    simp [wpOpsS, go_sem, h, bodyPostS, results, Oper.upon]
  · intro p w
    refine callsD_of_wpS (fn := Tryd.f23) rfl rfl fun c₀ cs hu => ?_
    apply wpS_seq
    apply wpS_region
    simp [wpOpsS, go_sem, recoverD, hu, Exit.thenS, Tryd.f23]
    apply wpS_seq
    apply wpS_region
    simp [wpOpsS, go_sem, Exit.thenS, Act.eval, Act.put]
    refine wpS_cond (t := false) (by simp [Act.eval, Array.replicate]) ?_
    simp only [Bool.false_eq_true, if_false]
    refine wpS_of_wp (wp_skip ?_)
    cases c₀
    simp_all [bodyPostS, results]
end Go.Flat
