/- TopSigned: the law's card. -/
import Derived.Test.YtbjlgbejbolohaaDoorW5
import Derived.Test.YtbjlgbejbolohaaDoorW6
import Derived.Test.YtbjlgbejbolohaaDoorFlatG
set_option linter.unusedVariables false
set_option linter.unusedSimpArgs false
namespace Go.Proofs.YtbjlgbejbolohaaDoor
open Go.ChangeShapes Go.WideShapes Go.ChangeAt Go.RowKit

set_option maxRecDepth 100000 in
theorem topSigned_lifted (os : Os) (started : os.Started) (H : Type) (enc : TypeId × Value → H) :
    ReturnsInHanded {} Tryd.checked os 3 .any (fun w args => (Rows.topSignedSpec.pre enc Tryd.prog Tryd.f3 Rows.topSignedRow.domain false w args ∧ laidMetH Tryd.prog Rows.topSignedRow.laid w) ∧ sizedMet enc Tryd.prog Tryd.f3 (OpenSpec.ofChange Rows.topSignedSpec) false w args)
      (Rows.topSignedSpec.post enc Tryd.prog Tryd.f3 false true false false) := by
  refine returnsInHanded_of_change_and (C := Tryd.checked) (X := fun w _ => laidMetH Tryd.prog Rows.topSignedRow.laid w) (fun _ _ _ hh h => h.of_heap hh) own started (by kernel_rfl) Tryd.func3
    (ChangeSpec.witness_shaped (enc := enc) (C := Tryd.checked) (os := os) (X := fun w _ => laidMetH Tryd.prog Rows.topSignedRow.laid w) false (World.laidAll Tryd.prog os Rows.topSignedRow.laid) #[.slice none 0 0, .agg #[.int .u8 0, .int .u8 0, .int .u8 0, .int .u8 0, .int .u8 0, .int .u8 0, .int .u8 0, .int .u8 0, .int .u8 0, .int .u8 0, .int .u8 0, .int .u8 0, .int .u8 0, .int .u8 0, .int .u8 0, .int .u8 0, .int .u8 0, .int .u8 0, .int .u8 0, .int .u8 0, .int .u8 0, .int .u8 0, .int .u8 0, .int .u8 0, .int .u8 0, .int .u8 0, .int .u8 0, .int .u8 0, .int .u8 0, .int .u8 0, .int .u8 0, .int .u8 0], .int .i64 0, .int .i64 0] 8 (World.laidAll_os _ _ _)
      (World.shaped_of_ZipB (by kernel_rfl) (by kernel_rfl)) (by kernel_rfl) (by kernel_rfl) (by kernel_rfl)
      (by rw [MakeChecks.laidMetH_plain _ _ _ (by kernel_rfl)]; exact laidMet_laidAll _ (by kernel_rfl) (by kernel_rfl))) ?_
  intro W base args ds gs before hval0 hW hc _ hL _
  obtain ⟨L, rfl⟩ : ∃ L : List Value, args = L.toArray := ⟨args.toList, by simp⟩
  have hval : ∀ (j : Nat) t v, Tryd.f3.params[j]? = some t → L.toArray[j]? = some v → Value.okWide Tryd.prog W .any base t v := hval0
  have hW' := hW
  obtain ⟨p, q, hA0, hV, _, _, _⟩ := hW'
  have hA : DataW.TrodAll enc Tryd.prog W 0 (fun _ => true) true Tryd.f3.params.toList L ds p := hA0
  rw [show Tryd.f3.params = #[22, 24, 3, 3] from rfl] at hA hval
  have hB : DataW.TrodAll enc Tryd.prog W 0 (fun _ => true) true [22, 24, 3, 3] L ds p := hA
  obtain ⟨v0, L0, d0, D0, p0, q0, rfl, rfl, rfl, h0, hB0⟩ := trodAll_cons hB
  obtain ⟨v1, L1, d1, D1, p1, q1, rfl, rfl, rfl, h1, hB1⟩ := trodAll_cons hB0
  obtain ⟨v2, L2, d2, D2, p2, q2, rfl, rfl, rfl, h2, hB2⟩ := trodAll_cons hB1
  obtain ⟨v3, L3, d3, D3, p3, q3, rfl, rfl, rfl, h3, hB3⟩ := trodAll_cons hB2
  obtain ⟨rfl, rfl, rfl⟩ := trodAll_nil hB3
  have hrel0 := hrel_of_laid (by kernel_rfl) hL (by simp [Rows.topSignedRow]) (by simp [Rows.topSignedRow])
  have hro0 : ∀ (b : Nat) (r : Flat.Reg), (fun _ => none : Flat.MapM) b = some r → r.wr = false := fun _ _ h => by cases h
  obtain ⟨x0, c0, m0, l0, u0, ok0, hrel1, hro1, hext0, hv0⟩ := hrel0.addRw hro0 Flat.Zys (Flat.Zdw.str (P := Tryd.prog) (t := 9) (by kernel_rfl)) (by kernel_rfl) (by kernel_rfl) (fun _ => rfl) (hval 0 22 v0 rfl rfl) h0
  obtain ⟨x1, rfl, b1⟩ := Flat.Zdw.val (Flat.Zdw.bytes (n := 32) (by kernel_rfl : Tryd.prog.underlying 24 = some (.array 32 5)) (by kernel_rfl) (by kernel_rfl) (by kernel_rfl)) (.inr ⟨32, 5, by kernel_rfl⟩) (hval 1 24 v1 rfl rfl) h1
  obtain ⟨x2, rfl, b2⟩ := Flat.Zdw.one (enc := fun z : Int => .int .i64 z) (Flat.Zdw.int (by kernel_rfl : Tryd.prog.underlying 3 = some (.int .i64))) (.inr (.inr ⟨.i64, by kernel_rfl⟩)) (hval 2 3 v2 rfl rfl) h2
  obtain ⟨x3, rfl, b3⟩ := Flat.Zdw.one (enc := fun z : Int => .int .i64 z) (Flat.Zdw.int (by kernel_rfl : Tryd.prog.underlying 3 = some (.int .i64))) (.inr (.inr ⟨.i64, by kernel_rfl⟩)) (hval 3 3 v3 rfl rfl) h3
  exact Flat.Zzf (argsL := [Flat.slv 0 0 x0.length c0, Flat.dgV x1, .int .i64 x2, .int .i64 x3]) hW rfl rfl rfl (by kernel_rfl : Tryd.prog.underlying 4 = some .bool) (by kernel_rfl) (by kernel_rfl) hro1 hrel1 (Flat.L2.cons (hv0) (Flat.L2.cons (Flat.VR.of_pure (Flat.Zaz fun _ => rfl)) (Flat.L2.cons (rfl) (Flat.L2.cons (rfl) Flat.L2.nil)))) (Flat.Zr8 kk hG hG1 hne x0 c0 l0 u0 x1 x2 x3)
theorem topSigned_said : Rows.TopSignedSaid :=
 OpenClaim.holds_of_wide 3 Tryd.f3 rfl rfl rfl rfl rfl rfl rfl ⟨rfl, rfl, rfl, rfl, rfl⟩ rfl rfl rfl rfl rfl (by kernel_rfl) Tryd.func3 (by kernel_rfl)
  (of_decide_eq_true (by kernel_rfl)) (by unfold Func.isWrapper; first | (rw [if_pos (by decide +kernel)]; kernel_rfl) | (rw [if_neg (by decide +kernel)]; exact ⟨rfl, rfl⟩))
  (fun os started H enc _ => topSigned_lifted os started H enc)
theorem topSigned_holds : Rows.TopSignedCardSaid :=
  Claim7.holds_tied_plain_at .later [] [.data, .data, .data] true (true, "5b83b7c0950014c4f8a0d267e0690128c1938fdfc9365c124a70c0eaa6d97317") false topSigned_said (fun _ h => by cases h) (by kernel_rfl) (fun _ h => by cases h) topSigned_row_tie rfl ⟨rfl, rfl⟩ (by kernel_rfl) rfl
    (fun f fn hf hfn => by
      obtain rfl : f = 3 := Option.some.inj ((show Tryd.prog.funcNamed "estreat/estreattop.TopSigned" = some 3 by kernel_rfl).symm.trans hf) |>.symm
      obtain rfl : fn = Tryd.f3 := (Option.some.inj (Tryd.func3.symm.trans hfn)).symm
      exact ⟨by kernel_rfl, fun j t ht => by
        rw [show Tryd.f3.params = #[22, 24, 3, 3] from rfl] at ht
        have hm : t ∈ [22, 24, 3, 3] := by simpa using Array.mem_of_getElem? ht
        have hall : ([22, 24, 3, 3].all fun u => !Tryd.prog.wantsStandIn u) = true := by kernel_rfl
        exact (show Tryd.prog.wantsStandIn t = false by simpa using List.all_eq_true.1 hall t hm)⟩)
    (by kernel_rfl)
#print axioms topSigned_holds
end Go.Proofs.YtbjlgbejbolohaaDoor
