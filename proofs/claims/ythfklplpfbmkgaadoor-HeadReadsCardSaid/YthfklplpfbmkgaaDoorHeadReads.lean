/- HeadReads: the law's card. -/
import Derived.Test.YthfklplpfbmkgaaDoorTabs1
import Derived.Test.YthfklplpfbmkgaaDoorH11
import Derived.Test.YthfklplpfbmkgaaDoorH36
import Derived.Test.YthfklplpfbmkgaaDoorFlatG
namespace Go.Proofs.YthfklplpfbmkgaaDoor
open Go.ChangeShapes Go.WideShapes Go.ChangeAt Go.RowKit
set_option linter.unusedVariables false
set_option linter.unusedSimpArgs false

set_option maxRecDepth 100000 in
theorem headReads_lifted (os : Os) (started : os.Started) (H : Type) (enc : TypeId × Value → H) :
    ReturnsInHanded {} Tryd.checked os 7 .any (fun w args => (Rows.headReadsSpec.pre enc Tryd.prog Tryd.f7 Rows.headReadsRow.domain false w args ∧ laidMetH Tryd.prog Rows.headReadsRow.laid w) ∧ sizedMet enc Tryd.prog Tryd.f7 (OpenSpec.ofChange Rows.headReadsSpec) false w args)
      (Rows.headReadsSpec.post enc Tryd.prog Tryd.f7 false true false false) := by
  refine returnsInHanded_of_change_and (C := Tryd.checked) (X := fun w _ => laidMetH Tryd.prog Rows.headReadsRow.laid w) (fun _ _ _ hh h => h.of_heap hh) own started (by kernel_rfl) Tryd.func7
    (ChangeSpec.witness_shaped (enc := enc) (C := Tryd.checked) (os := os) (X := fun w _ => laidMetH Tryd.prog Rows.headReadsRow.laid w) false (World.laidAll Tryd.prog os Rows.headReadsRow.laid) #[.slice none 0 0] 8 (World.laidAll_os _ _ _)
      (World.shaped_of_ZipB (by kernel_rfl) (by kernel_rfl)) (by kernel_rfl) (by kernel_rfl) (by kernel_rfl)
      (by rw [MakeChecks.laidMetH_plain _ _ _ (by kernel_rfl)]; exact laidMet_laidAll _ (by kernel_rfl) (by kernel_rfl))) ?_
  intro W base args ds gs before hval0 hW hc _ hL _
  obtain ⟨L, rfl⟩ : ∃ L : List Value, args = L.toArray := ⟨args.toList, by simp⟩
  have hval : ∀ (j : Nat) t v, Tryd.f7.params[j]? = some t → L.toArray[j]? = some v → Value.okWide Tryd.prog W .any base t v := hval0
  have hW' := hW
  obtain ⟨p, q, hA0, hV, _, _, _⟩ := hW'
  have hA : DataW.TrodAll enc Tryd.prog W 0 (fun _ => true) true Tryd.f7.params.toList L ds p := hA0
  rw [show Tryd.f7.params = #[36] from rfl] at hA hval
  have hB : DataW.TrodAll enc Tryd.prog W 0 (fun _ => true) true [36] L ds p := hA
  obtain ⟨v0, L0, d0, D0, p0, q0, rfl, rfl, rfl, h0, hB0⟩ := trodAll_cons hB
  obtain ⟨rfl, rfl, rfl⟩ := trodAll_nil hB0
  have hrel0 := hrel_of_laid1 (by kernel_rfl) hL (by simp [Rows.headReadsRow])
  have hro0 : ∀ (b : Nat) (r : Flat.Reg), (fun _ => none : Flat.MapM) b = some r → r.wr = false := fun _ _ h => by cases h
  obtain ⟨x0, c0, m0, l0, u0, ok0, hrel1, hro1, hext0, hv0⟩ := hrel0.addRw hro0 Flat.cU8 (Flat.Opens.u8 (P := Tryd.prog) (t := 5) (by kernel_rfl)) (by kernel_rfl) (by kernel_rfl) (fun _ => rfl) (hval 0 36 v0 rfl rfl) h0
  exact Flat.law_calls (argsL := [Flat.slv 0 0 x0.length c0]) hW rfl rfl rfl (by kernel_rfl : Tryd.prog.underlying 4 = some .bool) (by kernel_rfl) (by kernel_rfl) hro1 hrel1 (Flat.L2.cons (hv0) Flat.L2.nil) (Flat.HeadReads_rw kk h1G hne x0 c0 l0 u0)
theorem headReads_said : Rows.HeadReadsSaid :=
  OpenClaim.holds_of_wide 7 Tryd.f7 rfl rfl rfl rfl rfl rfl rfl ⟨rfl, rfl, rfl, rfl, rfl⟩ rfl rfl rfl rfl rfl (by kernel_rfl) Tryd.func7 (by kernel_rfl)
    (of_decide_eq_true (by kernel_rfl)) (by unfold Func.isWrapper; first | (rw [if_pos (by decide +kernel)]; kernel_rfl) | (rw [if_neg (by decide +kernel)]; exact ⟨rfl, rfl⟩))
    (fun os started H enc _ => headReads_lifted os started H enc)
theorem headReads_holds : Rows.HeadReadsCardSaid :=
  Claim7.holds_tied_plain_at .later [] [.data] true (true, "7d7a9e258f39d07efb5dbeef547c94f797b846c7a0668c8bd7e2e61e707d57c6") false headReads_said (fun _ h => by cases h) (by kernel_rfl) (fun _ h => by cases h) headReads_row_tie rfl ⟨rfl, rfl⟩ (by kernel_rfl) rfl
    (fun f fn hf hfn => by
      obtain rfl : f = 7 := Option.some.inj ((show Tryd.prog.funcNamed "estreat/estreatlaw07.HeadReads" = some 7 by kernel_rfl).symm.trans hf) |>.symm
      obtain rfl : fn = Tryd.f7 := (Option.some.inj (Tryd.func7.symm.trans hfn)).symm
      exact ⟨by kernel_rfl, fun j t ht => by
        rw [show Tryd.f7.params = #[36] from rfl] at ht
        have hm : t ∈ [36] := by simpa using Array.mem_of_getElem? ht
        have hall : ([36].all fun u => !Tryd.prog.wantsStandIn u) = true := by kernel_rfl
        exact (show Tryd.prog.wantsStandIn t = false by simpa using List.all_eq_true.1 hall t hm)⟩)
    (by kernel_rfl)
#print axioms headReads_holds
end Go.Proofs.YthfklplpfbmkgaaDoor
