/- PathCrosses: the law's card. -/
import Derived.Test.YtfjkagjbanhdlaaDoorRef
import Derived.Test.YtfjkagjbanhdlaaDoorT5C
import Derived.Test.YtfjkagjbanhdlaaDoorT1
set_option linter.unusedVariables false
set_option linter.unusedSimpArgs false
namespace Go.Proofs.YtfjkagjbanhdlaaDoor
open Go.ChangeShapes Go.WideShapes Go.ChangeAt Go.RowKit

set_option maxRecDepth 100000 in
theorem pathCrosses_lifted (os : Os) (started : os.Started) (H : Type) (enc : TypeId × Value → H) :
    ReturnsInHanded {} Tryd.checked os 4 .any (fun w args => (Rows.pathCrossesSpec.pre enc Tryd.prog Tryd.f4 Rows.pathCrossesRow.domain false w args ∧ laidMetH Tryd.prog Rows.pathCrossesRow.laid w) ∧ sizedMet enc Tryd.prog Tryd.f4 (OpenSpec.ofChange Rows.pathCrossesSpec) false w args)
      (Rows.pathCrossesSpec.post enc Tryd.prog Tryd.f4 false true false false) := by
  refine returnsInHanded_of_change_and (C := Tryd.checked) (X := fun w _ => laidMetH Tryd.prog Rows.pathCrossesRow.laid w) (fun _ _ _ hh h => h.of_heap hh) own started (by kernel_rfl) Tryd.func4
    (ChangeSpec.witness_shaped (enc := enc) (C := Tryd.checked) (os := os) (X := fun w _ => laidMetH Tryd.prog Rows.pathCrossesRow.laid w) false (World.laidAll Tryd.prog os Rows.pathCrossesRow.laid) #[.agg #[.int .u8 0, .int .u8 0, .int .u8 0, .int .u8 0, .int .u8 0, .int .u8 0, .int .u8 0, .int .u8 0, .int .u8 0, .int .u8 0, .int .u8 0, .int .u8 0, .int .u8 0, .int .u8 0, .int .u8 0, .int .u8 0, .int .u8 0, .int .u8 0, .int .u8 0, .int .u8 0, .int .u8 0, .int .u8 0, .int .u8 0, .int .u8 0, .int .u8 0, .int .u8 0, .int .u8 0, .int .u8 0, .int .u8 0, .int .u8 0, .int .u8 0, .int .u8 0], .slice none 0 0, .slice none 0 0, .slice none 0 0, .int .i64 0, .int .i64 0, .int .i64 0] 8 (World.laidAll_os _ _ _)
      (World.shaped_of_ZipB (by kernel_rfl) (by kernel_rfl)) (by kernel_rfl) (by kernel_rfl) (by kernel_rfl)
      (by rw [MakeChecks.laidMetH_plain _ _ _ (by kernel_rfl)]; exact laidMet_laidAll _ (by kernel_rfl) (by kernel_rfl))) ?_
  intro W base args ds gs before hval0 hW hc _ hL _
  obtain ⟨L, rfl⟩ : ∃ L : List Value, args = L.toArray := ⟨args.toList, by simp⟩
  have hval : ∀ (j : Nat) t v, Tryd.f4.params[j]? = some t → L.toArray[j]? = some v → Value.okWide Tryd.prog W .any base t v := hval0
  have hW' := hW
  obtain ⟨p, q, hA0, hV, _, _, _⟩ := hW'
  have hA : DataW.TrodAll enc Tryd.prog W 0 (fun _ => true) true Tryd.f4.params.toList L ds p := hA0
  rw [show Tryd.f4.params = #[23, 24, 24, 24, 3, 3, 3] from rfl] at hA hval
  have hB : DataW.TrodAll enc Tryd.prog W 0 (fun _ => true) true [23, 24, 24, 24, 3, 3, 3] L ds p := hA
  obtain ⟨v0, L0, d0, D0, p0, q0, rfl, rfl, rfl, h0, hB0⟩ := trodAll_cons hB
  obtain ⟨v1, L1, d1, D1, p1, q1, rfl, rfl, rfl, h1, hB1⟩ := trodAll_cons hB0
  obtain ⟨v2, L2, d2, D2, p2, q2, rfl, rfl, rfl, h2, hB2⟩ := trodAll_cons hB1
  obtain ⟨v3, L3, d3, D3, p3, q3, rfl, rfl, rfl, h3, hB3⟩ := trodAll_cons hB2
  obtain ⟨v4, L4, d4, D4, p4, q4, rfl, rfl, rfl, h4, hB4⟩ := trodAll_cons hB3
  obtain ⟨v5, L5, d5, D5, p5, q5, rfl, rfl, rfl, h5, hB5⟩ := trodAll_cons hB4
  obtain ⟨v6, L6, d6, D6, p6, q6, rfl, rfl, rfl, h6, hB6⟩ := trodAll_cons hB5
  obtain ⟨rfl, rfl, rfl⟩ := trodAll_nil hB6
  have hrel0 := hrel_of_laid (by kernel_rfl) hL (by simp [Rows.pathCrossesRow]) (by simp [Rows.pathCrossesRow])
  have hro0 : ∀ (b : Nat) (r : Flat.Reg), (fun _ => none : Flat.MapM) b = some r → r.wr = false := fun _ _ h => by cases h
  obtain ⟨x0, rfl, b0⟩ := Flat.Za0.val (Flat.Za0.bytes (n := 32) (by kernel_rfl : Tryd.prog.underlying 23 = some (.array 32 5)) (by kernel_rfl) (by kernel_rfl) (by kernel_rfl)) (.inr ⟨32, 5, by kernel_rfl⟩) (hval 0 23 v0 rfl rfl) h0
  obtain ⟨x1, c1, m1, l1, u1, ok1, hrel2, hro2, hext1, hv1⟩ := hrel0.addRw hro0 Flat.Zk (Flat.Zld) (by kernel_rfl) (by kernel_rfl) (fun _ => rfl) (hval 1 24 v1 rfl rfl) h1
  obtain ⟨x2, c2, m2, l2, u2, ok2, hrel3, hro3, hext2, hv2⟩ := hrel2.addRw hro2 Flat.Zk (Flat.Zld) (by kernel_rfl) (by kernel_rfl) (fun _ => rfl) (hval 2 24 v2 rfl rfl) h2
  obtain ⟨x3, c3, m3, l3, u3, ok3, hrel4, hro4, hext3, hv3⟩ := hrel3.addRw hro3 Flat.Zk (Flat.Zld) (by kernel_rfl) (by kernel_rfl) (fun _ => rfl) (hval 3 24 v3 rfl rfl) h3
  obtain ⟨x4, rfl, b4⟩ := Flat.Za0.one (enc := fun z : Int => .int .i64 z) (Flat.Za0.int (by kernel_rfl : Tryd.prog.underlying 3 = some (.int .i64))) (.inr (.inr ⟨.i64, by kernel_rfl⟩)) (hval 4 3 v4 rfl rfl) h4
  obtain ⟨x5, rfl, b5⟩ := Flat.Za0.one (enc := fun z : Int => .int .i64 z) (Flat.Za0.int (by kernel_rfl : Tryd.prog.underlying 3 = some (.int .i64))) (.inr (.inr ⟨.i64, by kernel_rfl⟩)) (hval 5 3 v5 rfl rfl) h5
  obtain ⟨x6, rfl, b6⟩ := Flat.Za0.one (enc := fun z : Int => .int .i64 z) (Flat.Za0.int (by kernel_rfl : Tryd.prog.underlying 3 = some (.int .i64))) (.inr (.inr ⟨.i64, by kernel_rfl⟩)) (hval 6 3 v6 rfl rfl) h6
  exact Flat.Zx5 (argsL := [Flat.dgV x0, Flat.slv 0 0 x1.length c1, Flat.slv 1 0 x2.length c2, Flat.slv 2 0 x3.length c3, .int .i64 x4, .int .i64 x5, .int .i64 x6]) hW rfl rfl rfl (by kernel_rfl : Tryd.prog.underlying 4 = some .bool) (by kernel_rfl) (by kernel_rfl) hro4 hrel4 (Flat.L2.cons (Flat.VR.of_pure (Flat.Zcg fun _ => rfl)) (Flat.L2.cons (((hv1).mono hext2).mono hext3) (Flat.L2.cons ((hv2).mono hext3) (Flat.L2.cons (hv3) (Flat.L2.cons (rfl) (Flat.L2.cons (rfl) (Flat.L2.cons (rfl) Flat.L2.nil))))))) (Flat.Zpl kk hG hG1 x0 x1 x1.length c1 rfl l1 (by omega) x2 x2.length c2 rfl l2 (by omega) x3 x3.length c3 rfl l3 (by omega) x4 x5 x6 b4 b5 b6)
theorem pathCrosses_said : Rows.PathCrossesSaid :=
 OpenClaim.holds_of_wide 4 Tryd.f4 rfl rfl rfl rfl rfl rfl rfl ⟨rfl, rfl, rfl, rfl, rfl⟩ rfl rfl rfl rfl rfl (by kernel_rfl) Tryd.func4 (by kernel_rfl)
  (of_decide_eq_true (by kernel_rfl)) (by unfold Func.isWrapper; first | (rw [if_pos (by decide +kernel)]; kernel_rfl) | (rw [if_neg (by decide +kernel)]; exact ⟨rfl, rfl⟩))
  (fun os started H enc _ => pathCrosses_lifted os started H enc)
theorem pathCrosses_holds : Rows.PathCrossesCardSaid :=
  Claim7.holds_tied_plain_at .later [] [.data, .data, .data] true (true, "862ff8e685f9f966162aa879629f3cacd6343cea3adde5194f16c6dec23f81a9") false pathCrosses_said (fun _ h => by cases h) (by kernel_rfl) (fun _ h => by cases h) pathCrosses_row_tie rfl ⟨rfl, rfl⟩ (by kernel_rfl) rfl
    (fun f fn hf hfn => by
      obtain rfl : f = 4 := Option.some.inj ((show Tryd.prog.funcNamed "estreat/estreatlaw14.PathCrosses" = some 4 by kernel_rfl).symm.trans hf) |>.symm
      obtain rfl : fn = Tryd.f4 := (Option.some.inj (Tryd.func4.symm.trans hfn)).symm
      exact ⟨by kernel_rfl, fun j t ht => by
        rw [show Tryd.f4.params = #[23, 24, 24, 24, 3, 3, 3] from rfl] at ht
        have hm : t ∈ [23, 24, 24, 24, 3, 3, 3] := by simpa using Array.mem_of_getElem? ht
        have hall : ([23, 24, 24, 24, 3, 3, 3].all fun u => !Tryd.prog.wantsStandIn u) = true := by kernel_rfl
        exact (show Tryd.prog.wantsStandIn t = false by simpa using List.all_eq_true.1 hall t hm)⟩)
    (by kernel_rfl)
#print axioms pathCrosses_holds
end Go.Proofs.YtfjkagjbanhdlaaDoor
