/- HeadTurned: the law's card. -/
import Derived.Test.YthfklplpfbmkgaaDoorTabs1
import Derived.Test.YthfklplpfbmkgaaDoorH11
import Derived.Test.YthfklplpfbmkgaaDoorH28
import Derived.Test.YthfklplpfbmkgaaDoorFlatG
namespace Go.Proofs.YthfklplpfbmkgaaDoor
open Go.ChangeShapes Go.WideShapes Go.ChangeAt Go.RowKit
set_option linter.unusedVariables false
set_option linter.unusedSimpArgs false

set_option maxRecDepth 100000 in
theorem headTurned_lifted (os : Os) (started : os.Started) (H : Type) (enc : TypeId × Value → H) :
    ReturnsInHanded {} Tryd.checked os 4 .any (fun w args => (Rows.headTurnedSpec.pre enc Tryd.prog Tryd.f4 Rows.headTurnedRow.domain false w args ∧ laidMetH Tryd.prog Rows.headTurnedRow.laid w) ∧ sizedMet enc Tryd.prog Tryd.f4 (OpenSpec.ofChange Rows.headTurnedSpec) false w args)
      (Rows.headTurnedSpec.post enc Tryd.prog Tryd.f4 false true false false) := by
  refine returnsInHanded_of_change_and (C := Tryd.checked) (X := fun w _ => laidMetH Tryd.prog Rows.headTurnedRow.laid w) (fun _ _ _ hh h => h.of_heap hh) own started (by kernel_rfl) Tryd.func4
    (ChangeSpec.witness_shaped (enc := enc) (C := Tryd.checked) (os := os) (X := fun w _ => laidMetH Tryd.prog Rows.headTurnedRow.laid w) false (World.laidAll Tryd.prog os Rows.headTurnedRow.laid) #[.agg #[.int .u8 0, .int .u8 0, .int .u8 0, .int .u8 0, .int .u8 0, .int .u8 0, .int .u8 0, .int .u8 0, .int .u8 0, .int .u8 0, .int .u8 0, .int .u8 0, .int .u8 0, .int .u8 0, .int .u8 0, .int .u8 0, .int .u8 0, .int .u8 0, .int .u8 0, .int .u8 0, .int .u8 0, .int .u8 0, .int .u8 0, .int .u8 0, .int .u8 0, .int .u8 0, .int .u8 0, .int .u8 0, .int .u8 0, .int .u8 0, .int .u8 0, .int .u8 0], .agg #[.int .i64 0, .int .i64 0, .int .i64 0, .int .u8 0, .int .u8 0, .int .u8 0, .int .u8 0, .int .u8 0, .int .u8 0, .int .u8 0, .int .u8 0, .int .u8 0, .int .u8 0, .int .u8 0, .int .u8 0, .int .u8 0, .int .u8 0, .int .u8 0, .int .u8 0, .int .u8 0, .int .u8 0, .int .u8 0, .int .u8 0, .int .u8 0, .int .u8 0, .int .u8 0, .int .u8 0, .int .u8 0, .int .u8 0, .int .u8 0, .int .u8 0, .int .u8 0, .int .u8 0, .int .u8 0, .int .u8 0, .int .i64 0], .int .i64 0, .int .i64 0, .int .u8 0, .agg #[.int .i64 0, .int .i64 0, .int .i64 0, .int .u8 0, .int .u8 0, .int .u8 0, .int .u8 0, .int .u8 0, .int .u8 0, .int .u8 0, .int .u8 0, .int .u8 0, .int .u8 0, .int .u8 0, .int .u8 0, .int .u8 0, .int .u8 0, .int .u8 0, .int .u8 0, .int .u8 0, .int .u8 0, .int .u8 0, .int .u8 0, .int .u8 0, .int .u8 0, .int .u8 0, .int .u8 0, .int .u8 0, .int .u8 0, .int .u8 0, .int .u8 0, .int .u8 0, .int .u8 0, .int .u8 0, .int .u8 0, .int .i64 0], .int .i64 0] 8 (World.laidAll_os _ _ _)
      (World.shaped_of_ZipB (by kernel_rfl) (by kernel_rfl)) (by kernel_rfl) (by kernel_rfl) (by kernel_rfl)
      (by rw [MakeChecks.laidMetH_plain _ _ _ (by kernel_rfl)]; exact laidMet_laidAll _ (by kernel_rfl) (by kernel_rfl))) ?_
  intro W base args ds gs before hval0 hW hc _ hL _
  obtain ⟨L, rfl⟩ : ∃ L : List Value, args = L.toArray := ⟨args.toList, by simp⟩
  have hval : ∀ (j : Nat) t v, Tryd.f4.params[j]? = some t → L.toArray[j]? = some v → Value.okWide Tryd.prog W .any base t v := hval0
  have hW' := hW
  obtain ⟨p, q, hA0, hV, _, _, _⟩ := hW'
  have hA : DataW.TrodAll enc Tryd.prog W 0 (fun _ => true) true Tryd.f4.params.toList L ds p := hA0
  rw [show Tryd.f4.params = #[23, 26, 3, 3, 5, 26, 3] from rfl] at hA hval
  have hB : DataW.TrodAll enc Tryd.prog W 0 (fun _ => true) true [23, 26, 3, 3, 5, 26, 3] L ds p := hA
  obtain ⟨v0, L0, d0, D0, p0, q0, rfl, rfl, rfl, h0, hB0⟩ := trodAll_cons hB
  obtain ⟨v1, L1, d1, D1, p1, q1, rfl, rfl, rfl, h1, hB1⟩ := trodAll_cons hB0
  obtain ⟨v2, L2, d2, D2, p2, q2, rfl, rfl, rfl, h2, hB2⟩ := trodAll_cons hB1
  obtain ⟨v3, L3, d3, D3, p3, q3, rfl, rfl, rfl, h3, hB3⟩ := trodAll_cons hB2
  obtain ⟨v4, L4, d4, D4, p4, q4, rfl, rfl, rfl, h4, hB4⟩ := trodAll_cons hB3
  obtain ⟨v5, L5, d5, D5, p5, q5, rfl, rfl, rfl, h5, hB5⟩ := trodAll_cons hB4
  obtain ⟨v6, L6, d6, D6, p6, q6, rfl, rfl, rfl, h6, hB6⟩ := trodAll_cons hB5
  obtain ⟨rfl, rfl, rfl⟩ := trodAll_nil hB6
  have hrel0 := hrel_of_laid1 (by kernel_rfl) hL (by simp [Rows.headTurnedRow])
  have hro0 : ∀ (b : Nat) (r : Flat.Reg), (fun _ => none : Flat.MapM) b = some r → r.wr = false := fun _ _ h => by cases h
  obtain ⟨x0, rfl, b0⟩ := Flat.Opens.val (Flat.Opens.bytes (n := 32) (by kernel_rfl : Tryd.prog.underlying 23 = some (.array 32 5)) (by kernel_rfl) (by kernel_rfl) (by kernel_rfl)) (.inr ⟨32, 5, by kernel_rfl⟩) (hval 0 23 v0 rfl rfl) h0
  obtain ⟨x1, rfl, b1⟩ := Flat.Opens.val (Flat.opens_Head) (.inl ⟨_, rfl⟩) (hval 1 26 v1 rfl rfl) h1
  obtain ⟨x2, rfl, b2⟩ := Flat.Opens.one (enc := fun z : Int => .int .i64 z) (Flat.Opens.int (by kernel_rfl : Tryd.prog.underlying 3 = some (.int .i64))) (.inr (.inr ⟨.i64, by kernel_rfl⟩)) (hval 2 3 v2 rfl rfl) h2
  obtain ⟨x3, rfl, b3⟩ := Flat.Opens.one (enc := fun z : Int => .int .i64 z) (Flat.Opens.int (by kernel_rfl : Tryd.prog.underlying 3 = some (.int .i64))) (.inr (.inr ⟨.i64, by kernel_rfl⟩)) (hval 3 3 v3 rfl rfl) h3
  obtain ⟨x4, rfl, b4⟩ := Flat.Opens.one (enc := fun z : BitVec 8 => Flat.w8 z) (Flat.Opens.u8 (by kernel_rfl : Tryd.prog.underlying 5 = some (.int .u8))) (.inr (.inr ⟨.u8, by kernel_rfl⟩)) (hval 4 5 v4 rfl rfl) h4
  obtain ⟨x5, rfl, b5⟩ := Flat.Opens.val (Flat.opens_Head) (.inl ⟨_, rfl⟩) (hval 5 26 v5 rfl rfl) h5
  obtain ⟨x6, rfl, b6⟩ := Flat.Opens.one (enc := fun z : Int => .int .i64 z) (Flat.Opens.int (by kernel_rfl : Tryd.prog.underlying 3 = some (.int .i64))) (.inr (.inr ⟨.i64, by kernel_rfl⟩)) (hval 6 3 v6 rfl rfl) h6
  exact Flat.law_calls (argsL := [Flat.dgV x0, Flat.headV x1, .int .i64 x2, .int .i64 x3, Flat.w8 x4, Flat.headV x5, .int .i64 x6]) hW rfl rfl rfl (by kernel_rfl : Tryd.prog.underlying 4 = some .bool) (by kernel_rfl) (by kernel_rfl) hro0 hrel0 (Flat.L2.cons (Flat.VR.of_pure (Flat.pure_row fun _ => rfl)) (Flat.L2.cons (Flat.VR.of_pure (Flat.pure_Head _)) (Flat.L2.cons (rfl) (Flat.L2.cons (rfl) (Flat.L2.cons (rfl) (Flat.L2.cons (Flat.VR.of_pure (Flat.pure_Head _)) (Flat.L2.cons (rfl) Flat.L2.nil))))))) (Flat.HeadTurned_ok kk h1G hne x0 x1 x2 x3 x4 x5 x6 b3)
theorem headTurned_said : Rows.HeadTurnedSaid :=
  OpenClaim.holds_of_wide 4 Tryd.f4 rfl rfl rfl rfl rfl rfl rfl ⟨rfl, rfl, rfl, rfl, rfl⟩ rfl rfl rfl rfl rfl (by kernel_rfl) Tryd.func4 (by kernel_rfl)
    (of_decide_eq_true (by kernel_rfl)) (by unfold Func.isWrapper; first | (rw [if_pos (by decide +kernel)]; kernel_rfl) | (rw [if_neg (by decide +kernel)]; exact ⟨rfl, rfl⟩))
    (fun os started H enc _ => headTurned_lifted os started H enc)
theorem headTurned_holds : Rows.HeadTurnedCardSaid :=
  Claim7.holds_tied_plain_at .later [] [.data] true (true, "7d7a9e258f39d07efb5dbeef547c94f797b846c7a0668c8bd7e2e61e707d57c6") false headTurned_said (fun _ h => by cases h) (by kernel_rfl) (fun _ h => by cases h) headTurned_row_tie rfl ⟨rfl, rfl⟩ (by kernel_rfl) rfl
    (fun f fn hf hfn => by
      obtain rfl : f = 4 := Option.some.inj ((show Tryd.prog.funcNamed "estreat/estreatlaw07.HeadTurned" = some 4 by kernel_rfl).symm.trans hf) |>.symm
      obtain rfl : fn = Tryd.f4 := (Option.some.inj (Tryd.func4.symm.trans hfn)).symm
      exact ⟨by kernel_rfl, fun j t ht => by
        rw [show Tryd.f4.params = #[23, 26, 3, 3, 5, 26, 3] from rfl] at ht
        have hm : t ∈ [23, 26, 3, 3, 5, 26, 3] := by simpa using Array.mem_of_getElem? ht
        have hall : ([23, 26, 3, 3, 5, 26, 3].all fun u => !Tryd.prog.wantsStandIn u) = true := by kernel_rfl
        exact (show Tryd.prog.wantsStandIn t = false by simpa using List.all_eq_true.1 hall t hm)⟩)
    (by kernel_rfl)
#print axioms headTurned_holds
end Go.Proofs.YthfklplpfbmkgaaDoor
