/- TreeGoes: for every list and number the law returns true, and its arguments stay; the tables are tied to the program's text. -/
import Derived.Test.YtabhbnhkobkakaaDoorRefLaws
section
namespace Go.Proofs.YtabhbnhkobkakaaDoor
open Go.ChangeShapes Go.WideShapes Go.ChangeAt Go.RowKit
set_option linter.unusedVariables false
set_option maxRecDepth 100000 in
theorem treeGoes_lifted (os : Os) (started : os.Started) (H : Type) (enc : TypeId × Value → H) :
    ReturnsInHanded {} Tryd.checked os 5 .any (fun w args => (Rows.treeGoesSpec.pre enc Tryd.prog Tryd.f5 Rows.treeGoesRow.domain false w args ∧ laidMetH Tryd.prog Rows.treeGoesRow.laid w) ∧ sizedMet enc Tryd.prog Tryd.f5 (OpenSpec.ofChange Rows.treeGoesSpec) false w args)
      (Rows.treeGoesSpec.post enc Tryd.prog Tryd.f5 false true false false) := by
  refine returnsInHanded_of_change_and (C := Tryd.checked) (X := fun w _ => laidMetH Tryd.prog Rows.treeGoesRow.laid w) (fun _ _ _ hh h => h.of_heap hh) own started (by kernel_rfl) Tryd.func5
    (ChangeSpec.witness_shaped (enc := enc) (C := Tryd.checked) (os := os) (X := fun w _ => laidMetH Tryd.prog Rows.treeGoesRow.laid w) false (World.laidAll Tryd.prog os Rows.treeGoesRow.laid) #[.slice none 0 0, .int .i64 0] 8 (World.laidAll_os _ _ _)
      (World.shaped_of_ZipB (by kernel_rfl) (by kernel_rfl)) (by kernel_rfl) (by kernel_rfl) (by kernel_rfl)
      (by rw [MakeChecks.laidMetH_plain _ _ _ (by kernel_rfl)]; exact laidMet_laidAll _ (by kernel_rfl) (by kernel_rfl))) ?_
  intro W base args ds gs before hval0 hW hc _ hL _
  have hval : ∀ (j : Nat) t v, Tryd.f5.params[j]? = some t → args[j]? = some v → Value.okWide Tryd.prog W .any base t v := hval0
  have hW' := hW
  obtain ⟨p, q, hA0, hV, _, _, _⟩ := hW'
  have hA : DataW.TrodAll enc Tryd.prog W 0 (fun _ => true) true Tryd.f5.params.toList args.toList ds p := hA0
  rw [Tryd.params5] at hA hval
  obtain ⟨v0, v1, d0, d1, p0, p1, rfl, rfl, rfl, h0, h1⟩ := trodAll_two hA
  have hrel0 := hrel_of_laid2 (by kernel_rfl) hL (by simp [Rows.treeGoesRow]) (by simp [Rows.treeGoesRow]) (by simp [Rows.treeGoesRow])
  have hro0 : ∀ (b : Nat) (r : Flat.Reg), (fun _ => none : Flat.MapM) b = some r → r.wr = false := fun _ _ h => by cases h
  obtain ⟨ds0, c0, m0, l0, u0, hrel1, hro1, hext0, hv0⟩ := hrel0.addDs hro0 Tryd.underlying22 Tryd.underlying26 Tryd.underlying5 (by kernel_rfl) (by kernel_rfl) (hval 0 22 v0 rfl rfl) h0
  obtain ⟨x1, rfl, _, _, wx1⟩ := open_int Tryd.underlying3 (hval 1 3 v1 rfl rfl) h1
  have b1 : -9223372036854775808 ≤ x1 ∧ x1 ≤ 9223372036854775807 := by
    rw [Lit.wf, Bool.and_eq_true] at wx1
    exact ⟨of_decide_eq_true wx1.1, of_decide_eq_true wx1.2⟩
  exact Flat.law_calls (argsL := [Flat.slv 0 0 ds0.length c0, .int .i64 x1]) hW rfl rfl rfl Tryd.underlying4 (by kernel_rfl) (by kernel_rfl) hro1 hrel1 (Flat.L2.cons (hv0) (Flat.L2.cons (rfl) Flat.L2.nil)) (Flat.TreeGoes_ok kk h2G h2G1 h2G2 ds0 c0 x1 l0 u0 b1.1 b1.2)
theorem treeGoes_said : Rows.TreeGoesSaid :=
  OpenClaim.holds_of_wide 5 Tryd.f5 rfl rfl rfl rfl rfl rfl rfl ⟨rfl, rfl, rfl, rfl, rfl⟩ rfl rfl rfl rfl rfl (by kernel_rfl) Tryd.func5 (by kernel_rfl)
    (of_decide_eq_true (by kernel_rfl)) (by unfold Func.isWrapper; first | (rw [if_pos (by decide +kernel)]; kernel_rfl) | (rw [if_neg (by decide +kernel)]; exact ⟨rfl, rfl⟩))
    (fun os started H enc _ => treeGoes_lifted os started H enc)
theorem treeGoes_holds : Rows.TreeGoesCardSaid :=
  Claim7.holds_tied_plain_at .later [] [.data, .data, .data, .data] true (true, "b75c6d91873f64bda9656c4e5567a44aaef6adadaae2519fb6a4187272d27960") false treeGoes_said (fun _ h => by cases h) (by kernel_rfl) (fun _ h => by cases h) treeGoes_row_tie rfl ⟨rfl, rfl⟩ (by kernel_rfl) rfl
    (fun f fn hf hfn => by
      obtain rfl : f = 5 := Option.some.inj ((show Tryd.prog.funcNamed "estreat/estreatlaw03.TreeGoes" = some 5 by kernel_rfl).symm.trans hf) |>.symm
      obtain rfl : fn = Tryd.f5 := (Option.some.inj (Tryd.func5.symm.trans hfn)).symm
      exact ⟨by kernel_rfl, fun j t ht => by
        rw [Tryd.params5] at ht
        have hm : t ∈ [22, 3] := by simpa using Array.mem_of_getElem? ht
        have hall : ([22, 3].all fun u => !Tryd.prog.wantsStandIn u) = true := by kernel_rfl
        exact (show Tryd.prog.wantsStandIn t = false by simpa using List.all_eq_true.1 hall t hm)⟩)
    (by kernel_rfl)
#print axioms treeGoes_holds
end Go.Proofs.YtabhbnhkobkakaaDoor
end
