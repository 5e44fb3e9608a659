/- HistoryOld: the law's card. -/
import Derived.Test.YtlpmhmhopbhahaaTabs0
import Derived.Test.YtlpmhmhopbhahaaE6
import Derived.Test.YtlpmhmhopbhahaaFlatG
namespace Go.Proofs.Ytlpmhmhopbhahaa
open Go.ChangeShapes Go.WideShapes Go.ChangeAt Go.RowKit
set_option linter.unusedVariables false
set_option linter.unusedSimpArgs false

set_option maxRecDepth 100000 in
theorem historyOld_lifted (os : Os) (started : os.Started) (H : Type) (enc : TypeId × Value → H) :
    ReturnsInHanded {} Try.checked os 4 .any (Rows.historyOldSpec.pre6 enc Try.prog Try.f4 Rows.historyOldRow.domain false)
      (Rows.historyOldSpec.post enc Try.prog Try.f4 false true false false) := by
  refine returnsInHanded_of_change (C := Try.checked) own started (by kernel_rfl) Try.func4
    (by
      obtain ⟨w, tape, i, h1, h2, h3, h4, ⟨⟨hp, _⟩, hs⟩, h5⟩ := ChangeSpec.witness_shaped (f := 4) (fn := Try.f4) (s := Rows.historyOldSpec) (conds := Rows.historyOldRow.domain) (apart := false) (enc := enc) (C := Try.checked) (os := os) (X := fun _ _ => True) false (World.laidAll Try.prog os []) #[.slice none 0 0] 8 (World.laidAll_os _ _ _)
        (World.shaped_of_ZipB (by kernel_rfl) (by kernel_rfl)) (by kernel_rfl) (by kernel_rfl) (by kernel_rfl) trivial
      exact ⟨w, tape, i, h1, h2, h3, h4, ⟨hp, hs⟩, h5⟩) ?_
  intro W base args ds gs before hval0 hW hc _
  obtain ⟨L, rfl⟩ : ∃ L : List Value, args = L.toArray := ⟨args.toList, by simp⟩
  have hval : ∀ (j : Nat) t v, Try.f4.params[j]? = some t → L.toArray[j]? = some v → Value.okWide Try.prog W .any base t v := hval0
  have hW' := hW
  obtain ⟨p, q, hA0, hV, _, _, _⟩ := hW'
  have hA : DataW.TrodAll enc Try.prog W 0 (fun _ => true) true Try.f4.params.toList L ds p := hA0
  rw [show Try.f4.params = #[22] from rfl] at hA hval
  have hB : DataW.TrodAll enc Try.prog W 0 (fun _ => true) true [22] L ds p := hA
  obtain ⟨v0, L0, d0, D0, p0, q0, rfl, rfl, rfl, h0, hB0⟩ := trodAll_cons hB
  obtain ⟨rfl, rfl, rfl⟩ := trodAll_nil hB0
  have hrel0 := hrel0 (W := W)
  have hro0 : ∀ (b : Nat) (r : Flat.Reg), (fun _ => none : Flat.MapM) b = some r → r.wr = false := fun _ _ h => by cases h
  obtain ⟨x0, c0, m0, l0, u0, ok0, hrel1, hro1, hext0, hv0⟩ := hrel0.addRw hro0 Flat.cItem (Flat.opens_Item) (by kernel_rfl) (by kernel_rfl) (fun _ => rfl) (hval 0 22 v0 rfl rfl) h0
  exact Flat.law_calls (argsL := [Flat.slv 0 0 x0.length c0]) hW rfl rfl rfl (by kernel_rfl : Try.prog.underlying 4 = some .bool) (by kernel_rfl) (by kernel_rfl) hro1 hrel1 (Flat.L2.cons (hv0) Flat.L2.nil) (Flat.HistoryOld_ok x0 c0 l0 u0)
theorem historyOld_said : Rows.HistoryOldSaid :=
  OpenClaim.holds_of_wide 4 Try.f4 rfl rfl rfl rfl rfl rfl rfl ⟨rfl, rfl, rfl, rfl, rfl⟩ rfl rfl rfl rfl rfl (by kernel_rfl) Try.func4 (by kernel_rfl)
    (of_decide_eq_true (by kernel_rfl)) (by unfold Func.isWrapper; first | (rw [if_pos (by decide +kernel)]; kernel_rfl) | (rw [if_neg (by decide +kernel)]; exact ⟨rfl, rfl⟩))
    (fun os started H enc _ => historyOld_lifted os started H enc)
#print axioms historyOld_said
end Go.Proofs.Ytlpmhmhopbhahaa
