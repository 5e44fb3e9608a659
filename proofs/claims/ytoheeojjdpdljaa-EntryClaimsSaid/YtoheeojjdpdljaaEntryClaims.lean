/- EntryClaims: the law's card. -/
import Derived.Test.YtoheeojjdpdljaaTabs0
import Derived.Test.YtoheeojjdpdljaaC2
import Derived.Test.YtoheeojjdpdljaaFlatG
namespace Go.Proofs.Ytoheeojjdpdljaa
open Go.ChangeShapes Go.WideShapes Go.ChangeAt Go.RowKit
set_option linter.unusedVariables false
set_option linter.unusedSimpArgs false

set_option maxRecDepth 100000 in
theorem entryClaims_lifted (os : Os) (started : os.Started) (H : Type) (enc : TypeId × Value → H) :
    ReturnsInHanded {} Try.checked os 3 .any (Rows.entryClaimsSpec.pre6 enc Try.prog Try.f3 Rows.entryClaimsRow.domain false)
      (Rows.entryClaimsSpec.post enc Try.prog Try.f3 false true false false) := by
  refine returnsInHanded_of_change (C := Try.checked) own started (by kernel_rfl) Try.func3
    (by
      obtain ⟨w, tape, i, h1, h2, h3, h4, ⟨⟨hp, _⟩, hs⟩, h5⟩ := ChangeSpec.witness_shaped (f := 3) (fn := Try.f3) (s := Rows.entryClaimsSpec) (conds := Rows.entryClaimsRow.domain) (apart := false) (enc := enc) (C := Try.checked) (os := os) (X := fun _ _ => True) false (World.laidAll Try.prog os []) #[.agg #[.int .i64 0, .int .i64 0, .int .i64 0, .int .i64 0, .int .u8 0, .int .u8 0, .int .u8 0, .int .u8 0, .int .u8 0, .int .u8 0, .int .u8 0, .int .u8 0, .int .u8 0, .int .u8 0, .int .u8 0, .int .u8 0, .int .u8 0, .int .u8 0, .int .u8 0, .int .u8 0, .int .u8 0, .int .u8 0, .int .u8 0, .int .u8 0, .int .u8 0, .int .u8 0, .int .u8 0, .int .u8 0, .int .u8 0, .int .u8 0, .int .u8 0, .int .u8 0, .int .u8 0, .int .u8 0, .int .u8 0, .int .u8 0]] 8 (World.laidAll_os _ _ _)
        (World.shaped_of_ZipB (by kernel_rfl) (by kernel_rfl)) (by kernel_rfl) (by kernel_rfl) (by kernel_rfl) trivial
      exact ⟨w, tape, i, h1, h2, h3, h4, ⟨hp, hs⟩, h5⟩) ?_
  intro W base args ds gs before hval0 hW hc _
  obtain ⟨L, rfl⟩ : ∃ L : List Value, args = L.toArray := ⟨args.toList, by simp⟩
  have hval : ∀ (j : Nat) t v, Try.f3.params[j]? = some t → L.toArray[j]? = some v → Value.okWide Try.prog W .any base t v := hval0
  have hW' := hW
  obtain ⟨p, q, hA0, hV, _, _, _⟩ := hW'
  have hA : DataW.TrodAll enc Try.prog W 0 (fun _ => true) true Try.f3.params.toList L ds p := hA0
  rw [show Try.f3.params = #[25] from rfl] at hA hval
  have hB : DataW.TrodAll enc Try.prog W 0 (fun _ => true) true [25] L ds p := hA
  obtain ⟨v0, L0, d0, D0, p0, q0, rfl, rfl, rfl, h0, hB0⟩ := trodAll_cons hB
  obtain ⟨rfl, rfl, rfl⟩ := trodAll_nil hB0
  have hrel0 := hrel0 (W := W)
  have hro0 : ∀ (b : Nat) (r : Flat.Reg), (fun _ => none : Flat.MapM) b = some r → r.wr = false := fun _ _ h => by cases h
  obtain ⟨x0, rfl, b0⟩ := Flat.Opens.val (Flat.opens_Claim) (.inl ⟨_, rfl⟩) (hval 0 25 v0 rfl rfl) h0
  exact Flat.law_calls (argsL := [Flat.claimV x0]) hW rfl rfl rfl (by kernel_rfl : Try.prog.underlying 4 = some .bool) (by kernel_rfl) (by kernel_rfl) hro0 hrel0 (Flat.L2.cons (Flat.VR.of_pure (Flat.pure_Claim _)) Flat.L2.nil) (Flat.EntryClaims_ok x0)
theorem entryClaims_said : Rows.EntryClaimsSaid :=
  OpenClaim.holds_of_wide 3 Try.f3 rfl rfl rfl rfl rfl rfl rfl ⟨rfl, rfl, rfl, rfl, rfl⟩ rfl rfl rfl rfl rfl (by kernel_rfl) Try.func3 (by kernel_rfl)
    (of_decide_eq_true (by kernel_rfl)) (by unfold Func.isWrapper; first | (rw [if_pos (by decide +kernel)]; kernel_rfl) | (rw [if_neg (by decide +kernel)]; exact ⟨rfl, rfl⟩))
    (fun os started H enc _ => entryClaims_lifted os started H enc)
#print axioms entryClaims_said
end Go.Proofs.Ytoheeojjdpdljaa
