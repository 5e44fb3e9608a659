/- TailsMost: the law's card. -/
import Derived.Test.YtlnggiomppkjmaaDoorFlatG
import Derived.Test.YtlnggiomppkjmaaDoorA8
import Derived.Test.YtlnggiomppkjmaaDoorFlatL
set_option linter.unusedVariables false
set_option linter.unusedSimpArgs false
namespace Go.Proofs.YtlnggiomppkjmaaDoor
open Go.ChangeShapes Go.WideShapes Go.ChangeAt Go.RowKit

set_option maxRecDepth 100000 in
theorem tailsMost_lifted (os : Os) (started : os.Started) (H : Type) (enc : TypeId × Value → H) :
    ReturnsInHanded {} Tryd.checked os 6 .any (fun w args => (Rows.tailsMostSpec.pre enc Tryd.prog Tryd.f6 Rows.tailsMostRow.domain false w args ∧ laidMetH Tryd.prog Rows.tailsMostRow.laid w) ∧ sizedMet enc Tryd.prog Tryd.f6 (OpenSpec.ofChange Rows.tailsMostSpec) false w args)
      (Rows.tailsMostSpec.post enc Tryd.prog Tryd.f6 false true false false) := by
  refine returnsInHanded_of_change_and (C := Tryd.checked) (X := fun w _ => laidMetH Tryd.prog Rows.tailsMostRow.laid w) (fun _ _ _ hh h => h.of_heap hh) own started (by kernel_rfl) Tryd.func6
    (ChangeSpec.witness_shaped (enc := enc) (C := Tryd.checked) (os := os) (X := fun w _ => laidMetH Tryd.prog Rows.tailsMostRow.laid w) false (World.laidAll Tryd.prog os Rows.tailsMostRow.laid) #[.slice none 0 0] 8 (World.laidAll_os _ _ _)
      (World.shaped_of_ZipB (by kernel_rfl) (by kernel_rfl)) (by kernel_rfl) (by kernel_rfl) (by kernel_rfl)
      (by rw [MakeChecks.laidMetH_plain _ _ _ (by kernel_rfl)]; exact laidMet_laidAll _ (by kernel_rfl) (by kernel_rfl))) ?_
  intro W base args ds gs before hval0 hW hc _ hL _
  obtain ⟨L, rfl⟩ : ∃ L : List Value, args = L.toArray := ⟨args.toList, by simp⟩
  have hval : ∀ (j : Nat) t v, Tryd.f6.params[j]? = some t → L.toArray[j]? = some v → Value.okWide Tryd.prog W .any base t v := hval0
  have hW' := hW
  obtain ⟨p, q, hA0, hV, _, _, _⟩ := hW'
  have hA : DataW.TrodAll enc Tryd.prog W 0 (fun _ => true) true Tryd.f6.params.toList L ds p := hA0
  rw [show Tryd.f6.params = #[22] from rfl] at hA hval
  have hB : DataW.TrodAll enc Tryd.prog W 0 (fun _ => true) true [22] L ds p := hA
  obtain ⟨v0, L0, d0, D0, p0, q0, rfl, rfl, rfl, h0, hB0⟩ := trodAll_cons hB
  obtain ⟨rfl, rfl, rfl⟩ := trodAll_nil hB0
  have hrel0 := hrel_of_laid (by kernel_rfl) hL (by simp [Rows.tailsMostRow]) (by simp [Rows.tailsMostRow])
  have hro0 : ∀ (b : Nat) (r : Flat.Reg), (fun _ => none : Flat.MapM) b = some r → r.wr = false := fun _ _ h => by cases h
  obtain ⟨x0, c0, m0, l0, u0, ok0, hrel1, hro1, hv0⟩ := hrel0.open_deep Flat.Za5 0 Flat.Zut (by kernel_rfl : Tryd.prog.underlying 22 = some (.slice 26)) (by kernel_rfl) (hval 0 22 v0 rfl rfl) h0
  exact Flat.Zxk (argsL := [Flat.slv 0 0 x0.length c0]) hW rfl rfl rfl (by kernel_rfl : Tryd.prog.underlying 4 = some .bool) (by kernel_rfl) (by kernel_rfl) hro1 hrel1 (Flat.L2.cons (hv0) Flat.L2.nil) (Flat.Zqr kk hG hG1 x0 c0 l0 u0 ok0)
theorem tailsMost_said : Rows.TailsMostSaid :=
 OpenClaim.holds_of_wide 6 Tryd.f6 rfl rfl rfl rfl rfl rfl rfl ⟨rfl, rfl, rfl, rfl, rfl⟩ rfl rfl rfl rfl rfl (by kernel_rfl) Tryd.func6 (by kernel_rfl)
  (of_decide_eq_true (by kernel_rfl)) (by unfold Func.isWrapper; first | (rw [if_pos (by decide +kernel)]; kernel_rfl) | (rw [if_neg (by decide +kernel)]; exact ⟨rfl, rfl⟩))
  (fun os started H enc _ => tailsMost_lifted os started H enc)
theorem tailsMost_holds : Rows.TailsMostCardSaid :=
  Claim7.holds_tied_plain_at .later [] [.data, .data, .data] true (true, "4834214849311e90fc269828b69b58623582a31d1ac412131e0cdb1495178a7f") false tailsMost_said (fun _ h => by cases h) (by kernel_rfl) (fun _ h => by cases h) tailsMost_row_tie rfl ⟨rfl, rfl⟩ (by kernel_rfl) rfl
    (fun f fn hf hfn => by
      obtain rfl : f = 6 := Option.some.inj ((show Tryd.prog.funcNamed "estreat/estreatlaw16.TailsMost" = some 6 by kernel_rfl).symm.trans hf) |>.symm
      obtain rfl : fn = Tryd.f6 := (Option.some.inj (Tryd.func6.symm.trans hfn)).symm
      exact ⟨by kernel_rfl, fun j t ht => by
        rw [show Tryd.f6.params = #[22] from rfl] at ht
        have hm : t ∈ [22] := by simpa using Array.mem_of_getElem? ht
        have hall : ([22].all fun u => !Tryd.prog.wantsStandIn u) = true := by kernel_rfl
        exact (show Tryd.prog.wantsStandIn t = false by simpa using List.all_eq_true.1 hall t hm)⟩)
    (by kernel_rfl)
#print axioms tailsMost_holds
end Go.Proofs.YtlnggiomppkjmaaDoor
