/- PathMakes: the law's card. -/
import Derived.Test.YtfjkagjbanhdlaaGreatDoorLast
import Derived.Test.YtfjkagjbanhdlaaGreatDoorT6M
import Derived.Test.YtfjkagjbanhdlaaGreatDoorT1
set_option linter.unusedVariables false
set_option linter.unusedSimpArgs false
namespace Go.Proofs.YtfjkagjbanhdlaaGreatDoor
open Go.ChangeShapes Go.WideShapes Go.ChangeAt Go.RowKit

set_option maxRecDepth 100000 in
theorem pathMakes_lifted (os : Os) (started : os.Started) (H : Type) (enc : TypeId × Value → H) :
    ReturnsInHanded {} Tryz.checked os 3 .any (fun w args => (Rows.pathMakesSpec.pre enc Tryz.prog Tryz.f3 Rows.pathMakesRow.domain false w args ∧ laidMetH Tryz.prog Rows.pathMakesRow.laid w) ∧ sizedMet enc Tryz.prog Tryz.f3 (OpenSpec.ofChange Rows.pathMakesSpec) false w args)
      (Rows.pathMakesSpec.post enc Tryz.prog Tryz.f3 false true false false) := by
  refine returnsInHanded_of_change_and (C := Tryz.checked) (X := fun w _ => laidMetH Tryz.prog Rows.pathMakesRow.laid w) (fun _ _ _ hh h => h.of_heap hh) own started (by kernel_rfl) Tryz.func3
    (ChangeSpec.witness_shaped (enc := enc) (C := Tryz.checked) (os := os) (X := fun w _ => laidMetH Tryz.prog Rows.pathMakesRow.laid w) false (World.laidAll Tryz.prog os Rows.pathMakesRow.laid) #[.slice none 0 0, .int .i64 0, .agg #[.int .i64 0, .int .i64 0, .int .i64 0, .int .u8 0, .int .u8 0, .int .u8 0, .int .u8 0, .int .u8 0, .int .u8 0, .int .u8 0, .int .u8 0, .int .u8 0, .int .u8 0, .int .u8 0, .int .u8 0, .int .u8 0, .int .u8 0, .int .u8 0, .int .u8 0, .int .u8 0, .int .u8 0, .int .u8 0, .int .u8 0, .int .u8 0, .int .u8 0, .int .u8 0, .int .u8 0, .int .u8 0, .int .u8 0, .int .u8 0, .int .u8 0, .int .u8 0, .int .u8 0, .int .u8 0, .int .u8 0, .int .i64 0, .int .i64 0, .int .u8 0, .int .u8 0, .int .u8 0, .int .u8 0, .int .u8 0, .int .u8 0, .int .u8 0, .int .u8 0, .int .u8 0, .int .u8 0, .int .u8 0, .int .u8 0, .int .u8 0, .int .u8 0, .int .u8 0, .int .u8 0, .int .u8 0, .int .u8 0, .int .u8 0, .int .u8 0, .int .u8 0, .int .u8 0, .int .u8 0, .int .u8 0, .int .u8 0, .int .u8 0, .int .u8 0, .int .u8 0, .int .u8 0, .int .u8 0, .int .u8 0, .int .u8 0]] 8 (World.laidAll_os _ _ _)
      (World.shaped_of_ZipB (by kernel_rfl) (by kernel_rfl)) (by kernel_rfl) (by kernel_rfl) (by kernel_rfl)
      (by rw [MakeChecks.laidMetH_plain _ _ _ (by kernel_rfl)]; exact laidMet_laidAll _ (by kernel_rfl) (by kernel_rfl))) ?_
  intro W base args ds gs before hval0 hW hc _ hL _
  obtain ⟨L, rfl⟩ : ∃ L : List Value, args = L.toArray := ⟨args.toList, by simp⟩
  have hval : ∀ (j : Nat) t v, Tryz.f3.params[j]? = some t → L.toArray[j]? = some v → Value.okWide Tryz.prog W .any base t v := hval0
  have hW' := hW
  obtain ⟨p, q, hA0, hV, _, _, _⟩ := hW'
  have hA : DataW.TrodAll enc Tryz.prog W 0 (fun _ => true) true Tryz.f3.params.toList L ds p := hA0
  rw [show Tryz.f3.params = #[22, 3, 28] from rfl] at hA hval
  have hB : DataW.TrodAll enc Tryz.prog W 0 (fun _ => true) true [22, 3, 28] L ds p := hA
  obtain ⟨v0, L0, d0, D0, p0, q0, rfl, rfl, rfl, h0, hB0⟩ := trodAll_cons hB
  obtain ⟨v1, L1, d1, D1, p1, q1, rfl, rfl, rfl, h1, hB1⟩ := trodAll_cons hB0
  obtain ⟨v2, L2, d2, D2, p2, q2, rfl, rfl, rfl, h2, hB2⟩ := trodAll_cons hB1
  obtain ⟨rfl, rfl, rfl⟩ := trodAll_nil hB2
  have hrel0 := hrel_of_laid (by kernel_rfl) hL (by simp [Rows.pathMakesRow]) (by simp [Rows.pathMakesRow]) (by simp [Rows.pathMakesRow])
  have hro0 : ∀ (b : Nat) (r : Flat.Reg), (fun _ => none : Flat.MapM) b = some r → r.wr = false := fun _ _ h => by cases h
  obtain ⟨x0, c0, m0, l0, u0, ok0, hrel1, hro1, hext0, hv0⟩ := hrel0.addRw hro0 Flat.Zt (Flat.Zyr) (by kernel_rfl) (by kernel_rfl) (fun _ => rfl) (hval 0 22 v0 rfl rfl) h0
  obtain ⟨x1, rfl, b1⟩ := Flat.Zbi.one (enc := fun z : Int => .int .i64 z) (Flat.Zbi.int (by kernel_rfl : Tryz.prog.underlying 3 = some (.int .i64))) (.inr (.inr ⟨.i64, by kernel_rfl⟩)) (hval 1 3 v1 rfl rfl) h1
  obtain ⟨x2, rfl, b2⟩ := Flat.Zbi.val (Flat.Zne) (.inl ⟨_, rfl⟩) (hval 2 28 v2 rfl rfl) h2
  exact Flat.Z1v (argsL := [Flat.slv 0 0 x0.length c0, .int .i64 x1, Flat.Zy x2]) hW rfl rfl rfl (by kernel_rfl : Tryz.prog.underlying 4 = some .bool) (by kernel_rfl) (by kernel_rfl) hro1 hrel1 (Flat.L2.cons (hv0) (Flat.L2.cons (rfl) (Flat.L2.cons (Flat.VR.of_pure (Flat.Zu9 _)) Flat.L2.nil))) (Flat.Zub kk hG hG1 hG2 x0 x0.length c0 rfl l0 (by omega) x1 x2 b1)
theorem pathMakes_said : Rows.PathMakesSaid :=
 OpenClaim.holds_of_wide 3 Tryz.f3 rfl rfl rfl rfl rfl rfl rfl ⟨rfl, rfl, rfl, rfl, rfl⟩ rfl rfl rfl rfl rfl (by kernel_rfl) Tryz.func3 (by kernel_rfl)
  (of_decide_eq_true (by kernel_rfl)) (by unfold Func.isWrapper; first | (rw [if_pos (by decide +kernel)]; kernel_rfl) | (rw [if_neg (by decide +kernel)]; exact ⟨rfl, rfl⟩))
  (fun os started H enc _ => pathMakes_lifted os started H enc)
theorem pathMakes_holds : Rows.PathMakesCardSaid :=
  Claim7.holds_tied_plain_at .later [] [.data, .data, .data, .data] true (true, "99ec83b448b072077304c662c0de092844f66ce4238f0cfa3fc054998d7e1aa0") false pathMakes_said (fun _ h => by cases h) (by kernel_rfl) (fun _ h => by cases h) pathMakes_row_tie rfl ⟨rfl, rfl⟩ (by kernel_rfl) rfl
    (fun f fn hf hfn => by
      obtain rfl : f = 3 := Option.some.inj ((show Tryz.prog.funcNamed "estreat/estreatlaw14.PathMakes" = some 3 by kernel_rfl).symm.trans hf) |>.symm
      obtain rfl : fn = Tryz.f3 := (Option.some.inj (Tryz.func3.symm.trans hfn)).symm
      exact ⟨by kernel_rfl, fun j t ht => by
        rw [show Tryz.f3.params = #[22, 3, 28] from rfl] at ht
        have hm : t ∈ [22, 3, 28] := by simpa using Array.mem_of_getElem? ht
        have hall : ([22, 3, 28].all fun u => !Tryz.prog.wantsStandIn u) = true := by kernel_rfl
        exact (show Tryz.prog.wantsStandIn t = false by simpa using List.all_eq_true.1 hall t hm)⟩)
    (by kernel_rfl)
#print axioms pathMakes_holds
end Go.Proofs.YtfjkagjbanhdlaaGreatDoor
