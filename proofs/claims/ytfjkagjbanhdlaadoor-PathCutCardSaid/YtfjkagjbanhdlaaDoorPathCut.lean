/- PathCut: the law's card. -/
import Derived.Test.YtfjkagjbanhdlaaDoorRef
import Derived.Test.YtfjkagjbanhdlaaDoorD3
import Derived.Test.YtfjkagjbanhdlaaDoorT1
set_option linter.unusedVariables false
set_option linter.unusedSimpArgs false
namespace Go.Proofs.YtfjkagjbanhdlaaDoor
open Go.ChangeShapes Go.WideShapes Go.ChangeAt Go.RowKit

set_option maxRecDepth 100000 in
theorem pathCut_lifted (os : Os) (started : os.Started) (H : Type) (enc : TypeId × Value → H) :
    ReturnsInHanded {} Tryd.checked os 5 .any (fun w args => (Rows.pathCutSpec.pre enc Tryd.prog Tryd.f5 Rows.pathCutRow.domain false w args ∧ laidMetH Tryd.prog Rows.pathCutRow.laid w) ∧ sizedMet enc Tryd.prog Tryd.f5 (OpenSpec.ofChange Rows.pathCutSpec) false w args)
      (Rows.pathCutSpec.post enc Tryd.prog Tryd.f5 false true false false) := by
  refine returnsInHanded_of_change_and (C := Tryd.checked) (X := fun w _ => laidMetH Tryd.prog Rows.pathCutRow.laid w) (fun _ _ _ hh h => h.of_heap hh) own started (by kernel_rfl) Tryd.func5
    (ChangeSpec.witness_shaped (enc := enc) (C := Tryd.checked) (os := os) (X := fun w _ => laidMetH Tryd.prog Rows.pathCutRow.laid w) false (World.laidAll Tryd.prog os Rows.pathCutRow.laid) #[.agg #[.int .u8 0, .int .u8 0, .int .u8 0, .int .u8 0, .int .u8 0, .int .u8 0, .int .u8 0, .int .u8 0, .int .u8 0, .int .u8 0, .int .u8 0, .int .u8 0, .int .u8 0, .int .u8 0, .int .u8 0, .int .u8 0, .int .u8 0, .int .u8 0, .int .u8 0, .int .u8 0, .int .u8 0, .int .u8 0, .int .u8 0, .int .u8 0, .int .u8 0, .int .u8 0, .int .u8 0, .int .u8 0, .int .u8 0, .int .u8 0, .int .u8 0, .int .u8 0], .slice none 0 0, .int .i64 0] 8 (World.laidAll_os _ _ _)
      (World.shaped_of_ZipB (by kernel_rfl) (by kernel_rfl)) (by kernel_rfl) (by kernel_rfl) (by kernel_rfl)
      (by rw [MakeChecks.laidMetH_plain _ _ _ (by kernel_rfl)]; exact laidMet_laidAll _ (by kernel_rfl) (by kernel_rfl))) ?_
  intro W base args ds gs before hval0 hW hc _ hL _
  obtain ⟨L, rfl⟩ : ∃ L : List Value, args = L.toArray := ⟨args.toList, by simp⟩
  have hval : ∀ (j : Nat) t v, Tryd.f5.params[j]? = some t → L.toArray[j]? = some v → Value.okWide Tryd.prog W .any base t v := hval0
  have hW' := hW
  obtain ⟨p, q, hA0, hV, _, _, _⟩ := hW'
  have hA : DataW.TrodAll enc Tryd.prog W 0 (fun _ => true) true Tryd.f5.params.toList L ds p := hA0
  rw [show Tryd.f5.params = #[23, 50, 3] from rfl] at hA hval
  have hB : DataW.TrodAll enc Tryd.prog W 0 (fun _ => true) true [23, 50, 3] L ds p := hA
  obtain ⟨v0, L0, d0, D0, p0, q0, rfl, rfl, rfl, h0, hB0⟩ := trodAll_cons hB
  obtain ⟨v1, L1, d1, D1, p1, q1, rfl, rfl, rfl, h1, hB1⟩ := trodAll_cons hB0
  obtain ⟨v2, L2, d2, D2, p2, q2, rfl, rfl, rfl, h2, hB2⟩ := trodAll_cons hB1
  obtain ⟨rfl, rfl, rfl⟩ := trodAll_nil hB2
  have hrel0 := hrel_of_laid (by kernel_rfl) hL (by simp [Rows.pathCutRow]) (by simp [Rows.pathCutRow])
  have hro0 : ∀ (b : Nat) (r : Flat.Reg), (fun _ => none : Flat.MapM) b = some r → r.wr = false := fun _ _ h => by cases h
  obtain ⟨x0, rfl, b0⟩ := Flat.Zax.val (Flat.Zax.bytes (n := 32) (by kernel_rfl : Tryd.prog.underlying 23 = some (.array 32 5)) (by kernel_rfl) (by kernel_rfl) (by kernel_rfl)) (.inr ⟨32, 5, by kernel_rfl⟩) (hval 0 23 v0 rfl rfl) h0
  obtain ⟨x1, c1, m1, l1, u1, ok1, hrel2, hro2, hv1⟩ := hrel0.open_deep Flat.Zdb 12 Flat.Zw3 (by kernel_rfl : Tryd.prog.underlying 50 = some (.slice 46)) (by kernel_rfl) (hval 1 50 v1 rfl rfl) h1
  obtain ⟨x2, rfl, b2⟩ := Flat.Zax.one (enc := fun z : Int => .int .i64 z) (Flat.Zax.int (by kernel_rfl : Tryd.prog.underlying 3 = some (.int .i64))) (.inr (.inr ⟨.i64, by kernel_rfl⟩)) (hval 2 3 v2 rfl rfl) h2
  exact Flat.Zzm (argsL := [Flat.dgV x0, Flat.slv 0 0 x1.length c1, .int .i64 x2]) hW rfl rfl rfl (by kernel_rfl : Tryd.prog.underlying 4 = some .bool) (by kernel_rfl) (by kernel_rfl) hro2 hrel2 (Flat.L2.cons (Flat.VR.of_pure (Flat.Zcj fun _ => rfl)) (Flat.L2.cons (hv1) (Flat.L2.cons (rfl) Flat.L2.nil))) (Flat.Zvz kk hG hG1 x0 x1 c1 l1 u1 ok1 x2)
theorem pathCut_said : Rows.PathCutSaid :=
 OpenClaim.holds_of_wide 5 Tryd.f5 rfl rfl rfl rfl rfl rfl rfl ⟨rfl, rfl, rfl, rfl, rfl⟩ rfl rfl rfl rfl rfl (by kernel_rfl) Tryd.func5 (by kernel_rfl)
  (of_decide_eq_true (by kernel_rfl)) (by unfold Func.isWrapper; first | (rw [if_pos (by decide +kernel)]; kernel_rfl) | (rw [if_neg (by decide +kernel)]; exact ⟨rfl, rfl⟩))
  (fun os started H enc _ => pathCut_lifted os started H enc)
theorem pathCut_holds : Rows.PathCutCardSaid :=
  Claim7.holds_tied_plain_at .later [] [.data, .data, .data] true (true, "862ff8e685f9f966162aa879629f3cacd6343cea3adde5194f16c6dec23f81a9") false pathCut_said (fun _ h => by cases h) (by kernel_rfl) (fun _ h => by cases h) pathCut_row_tie rfl ⟨rfl, rfl⟩ (by kernel_rfl) rfl
    (fun f fn hf hfn => by
      obtain rfl : f = 5 := Option.some.inj ((show Tryd.prog.funcNamed "estreat/estreatlaw14.PathCut" = some 5 by kernel_rfl).symm.trans hf) |>.symm
      obtain rfl : fn = Tryd.f5 := (Option.some.inj (Tryd.func5.symm.trans hfn)).symm
      exact ⟨by kernel_rfl, fun j t ht => by
        rw [show Tryd.f5.params = #[23, 50, 3] from rfl] at ht
        have hm : t ∈ [23, 50, 3] := by simpa using Array.mem_of_getElem? ht
        have hall : ([23, 50, 3].all fun u => !Tryd.prog.wantsStandIn u) = true := by kernel_rfl
        exact (show Tryd.prog.wantsStandIn t = false by simpa using List.all_eq_true.1 hall t hm)⟩)
    (by kernel_rfl)
#print axioms pathCut_holds
end Go.Proofs.YtfjkagjbanhdlaaDoor
