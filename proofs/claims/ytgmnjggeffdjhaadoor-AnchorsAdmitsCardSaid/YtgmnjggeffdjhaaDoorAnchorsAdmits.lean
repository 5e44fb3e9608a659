/- AnchorsAdmits: the law's card. -/
import Derived.Test.YtgmnjggeffdjhaaDoorTabsR
import Derived.Test.YtgmnjggeffdjhaaDoorA8
import Derived.Test.YtgmnjggeffdjhaaDoorFlatG
namespace Go.Proofs.YtgmnjggeffdjhaaDoor
open Go.ChangeShapes Go.WideShapes Go.ChangeAt Go.RowKit
set_option linter.unusedVariables false
set_option linter.unusedSimpArgs false

set_option maxRecDepth 100000 in
theorem anchorsAdmits_lifted (os : Os) (started : os.Started) (H : Type) (enc : TypeId × Value → H) :
    ReturnsInHanded {} Tryd.checked os 4 .any (fun w args => (Rows.anchorsAdmitsSpec.pre enc Tryd.prog Tryd.f4 Rows.anchorsAdmitsRow.domain false w args ∧ laidMetH Tryd.prog Rows.anchorsAdmitsRow.laid w) ∧ sizedMet enc Tryd.prog Tryd.f4 (OpenSpec.ofChange Rows.anchorsAdmitsSpec) false w args)
      (Rows.anchorsAdmitsSpec.post enc Tryd.prog Tryd.f4 false true false false) := by
  refine returnsInHanded_of_change_and (C := Tryd.checked) (X := fun w _ => laidMetH Tryd.prog Rows.anchorsAdmitsRow.laid w) (fun _ _ _ hh h => h.of_heap hh) own started (by kernel_rfl) Tryd.func4
    (ChangeSpec.witness_shaped (enc := enc) (C := Tryd.checked) (os := os) (X := fun w _ => laidMetH Tryd.prog Rows.anchorsAdmitsRow.laid w) false (World.laidAll Tryd.prog os Rows.anchorsAdmitsRow.laid) #[.agg #[.int .u8 0, .int .u8 0, .int .u8 0, .int .u8 0, .int .u8 0, .int .u8 0, .int .u8 0, .int .u8 0, .int .u8 0, .int .u8 0, .int .u8 0, .int .u8 0, .int .u8 0, .int .u8 0, .int .u8 0, .int .u8 0, .int .u8 0, .int .u8 0, .int .u8 0, .int .u8 0, .int .u8 0, .int .u8 0, .int .u8 0, .int .u8 0, .int .u8 0, .int .u8 0, .int .u8 0, .int .u8 0, .int .u8 0, .int .u8 0, .int .u8 0, .int .u8 0], .slice none 0 0, .agg #[.int .i64 0, .int .i64 0, .int .i64 0, .int .u8 0, .int .u8 0, .int .u8 0, .int .u8 0, .int .u8 0, .int .u8 0, .int .u8 0, .int .u8 0, .int .u8 0, .int .u8 0, .int .u8 0, .int .u8 0, .int .u8 0, .int .u8 0, .int .u8 0, .int .u8 0, .int .u8 0, .int .u8 0, .int .u8 0, .int .u8 0, .int .u8 0, .int .u8 0, .int .u8 0, .int .u8 0, .int .u8 0, .int .u8 0, .int .u8 0, .int .u8 0, .int .u8 0, .int .u8 0, .int .u8 0, .int .u8 0, .int .i64 0, .int .i64 0, .int .u8 0, .int .u8 0, .int .u8 0, .int .u8 0, .int .u8 0, .int .u8 0, .int .u8 0, .int .u8 0, .int .u8 0, .int .u8 0, .int .u8 0, .int .u8 0, .int .u8 0, .int .u8 0, .int .u8 0, .int .u8 0, .int .u8 0, .int .u8 0, .int .u8 0, .int .u8 0, .int .u8 0, .int .u8 0, .int .u8 0, .int .u8 0, .int .u8 0, .int .u8 0, .int .u8 0, .int .u8 0, .int .u8 0, .int .u8 0, .int .u8 0, .int .u8 0], .int .i64 0, .slice none 0 0, .agg #[.int .i64 0, .int .i64 0, .int .i64 0, .int .u8 0, .int .u8 0, .int .u8 0, .int .u8 0, .int .u8 0, .int .u8 0, .int .u8 0, .int .u8 0, .int .u8 0, .int .u8 0, .int .u8 0, .int .u8 0, .int .u8 0, .int .u8 0, .int .u8 0, .int .u8 0, .int .u8 0, .int .u8 0, .int .u8 0, .int .u8 0, .int .u8 0, .int .u8 0, .int .u8 0, .int .u8 0, .int .u8 0, .int .u8 0, .int .u8 0, .int .u8 0, .int .u8 0, .int .u8 0, .int .u8 0, .int .u8 0, .int .i64 0, .int .i64 0, .int .u8 0, .int .u8 0, .int .u8 0, .int .u8 0, .int .u8 0, .int .u8 0, .int .u8 0, .int .u8 0, .int .u8 0, .int .u8 0, .int .u8 0, .int .u8 0, .int .u8 0, .int .u8 0, .int .u8 0, .int .u8 0, .int .u8 0, .int .u8 0, .int .u8 0, .int .u8 0, .int .u8 0, .int .u8 0, .int .u8 0, .int .u8 0, .int .u8 0, .int .u8 0, .int .u8 0, .int .u8 0, .int .u8 0, .int .u8 0, .int .u8 0, .int .u8 0]] 8 (World.laidAll_os _ _ _)
      (World.shaped_of_ZipB (by kernel_rfl) (by kernel_rfl)) (by kernel_rfl) (by kernel_rfl) (by kernel_rfl)
      (by rw [MakeChecks.laidMetH_plain _ _ _ (by kernel_rfl)]; exact laidMet_laidAll _ (by kernel_rfl) (by kernel_rfl))) ?_
  intro W base args ds gs before hval0 hW hc _ hL _
  obtain ⟨L, rfl⟩ : ∃ L : List Value, args = L.toArray := ⟨args.toList, by simp⟩
  have hval : ∀ (j : Nat) t v, Tryd.f4.params[j]? = some t → L.toArray[j]? = some v → Value.okWide Tryd.prog W .any base t v := hval0
  have hW' := hW
  obtain ⟨p, q, hA0, hV, _, _, _⟩ := hW'
  have hA : DataW.TrodAll enc Tryd.prog W 0 (fun _ => true) true Tryd.f4.params.toList L ds p := hA0
  rw [show Tryd.f4.params = #[38, 22, 30, 3, 39, 30] from rfl] at hA hval
  have hB : DataW.TrodAll enc Tryd.prog W 0 (fun _ => true) true [38, 22, 30, 3, 39, 30] L ds p := hA
  obtain ⟨v0, L0, d0, D0, p0, q0, rfl, rfl, rfl, h0, hB0⟩ := trodAll_cons hB
  obtain ⟨v1, L1, d1, D1, p1, q1, rfl, rfl, rfl, h1, hB1⟩ := trodAll_cons hB0
  obtain ⟨v2, L2, d2, D2, p2, q2, rfl, rfl, rfl, h2, hB2⟩ := trodAll_cons hB1
  obtain ⟨v3, L3, d3, D3, p3, q3, rfl, rfl, rfl, h3, hB3⟩ := trodAll_cons hB2
  obtain ⟨v4, L4, d4, D4, p4, q4, rfl, rfl, rfl, h4, hB4⟩ := trodAll_cons hB3
  obtain ⟨v5, L5, d5, D5, p5, q5, rfl, rfl, rfl, h5, hB5⟩ := trodAll_cons hB4
  obtain ⟨rfl, rfl, rfl⟩ := trodAll_nil hB5
  have hrel0 := hrel_of_laid (by kernel_rfl) hL (by simp [Rows.anchorsAdmitsRow]) (by simp [Rows.anchorsAdmitsRow])
  have hro0 : ∀ (b : Nat) (r : Flat.Reg), (fun _ => none : Flat.MapM) b = some r → r.wr = false := fun _ _ h => by cases h
  obtain ⟨x0, rfl, b0⟩ := Flat.Opens.val (Flat.Opens.bytes (n := 32) (by kernel_rfl : Tryd.prog.underlying 38 = some (.array 32 5)) (by kernel_rfl) (by kernel_rfl) (by kernel_rfl)) (.inr ⟨32, 5, by kernel_rfl⟩) (hval 0 38 v0 rfl rfl) h0
  obtain ⟨x1, c1, m1, l1, u1, ok1, hrel2, hro2, hext1, hv1⟩ := hrel0.addRw hro0 Flat.cItem (Flat.opens_Item) (by kernel_rfl) (by kernel_rfl) (fun _ => rfl) (hval 1 22 v1 rfl rfl) h1
  obtain ⟨x2, rfl, b2⟩ := Flat.Opens.val (Flat.opens_Signed) (.inl ⟨_, rfl⟩) (hval 2 30 v2 rfl rfl) h2
  obtain ⟨x3, rfl, b3⟩ := Flat.Opens.one (enc := fun z : Int => .int .i64 z) (Flat.Opens.int (by kernel_rfl : Tryd.prog.underlying 3 = some (.int .i64))) (.inr (.inr ⟨.i64, by kernel_rfl⟩)) (hval 3 3 v3 rfl rfl) h3
  obtain ⟨x4, c4, m4, l4, u4, hrel5, hro5, hext4, hv4⟩ := hrel2.addDs hro2 (by kernel_rfl : Tryd.prog.underlying 39 = some (.slice 26)) (by kernel_rfl : Tryd.prog.underlying 26 = some (.array 32 5)) (by kernel_rfl) (by kernel_rfl) (by kernel_rfl) (hval 4 39 v4 rfl rfl) h4
  obtain ⟨x5, rfl, b5⟩ := Flat.Opens.val (Flat.opens_Signed) (.inl ⟨_, rfl⟩) (hval 5 30 v5 rfl rfl) h5
  exact Flat.law_calls (argsL := [Flat.dgV x0, Flat.slv 0 0 x1.length c1, Flat.signedV x2, .int .i64 x3, Flat.slv 1 0 x4.length c4, Flat.signedV x5]) hW rfl rfl rfl (by kernel_rfl : Tryd.prog.underlying 4 = some .bool) (by kernel_rfl) (by kernel_rfl) hro5 hrel5 (Flat.L2.cons (Flat.VR.of_pure (Flat.pure_row fun _ => rfl)) (Flat.L2.cons ((hv1).mono hext4) (Flat.L2.cons (Flat.VR.of_pure (Flat.pure_Signed _)) (Flat.L2.cons (rfl) (Flat.L2.cons (hv4) (Flat.L2.cons (Flat.VR.of_pure (Flat.pure_Signed _)) Flat.L2.nil)))))) (Flat.AnchorsAdmits_ok kk hG hG2 x0 x1 c1 l1 u1 x2 x3 b3 x4 c4 l4 u4 x5)
theorem anchorsAdmits_said : Rows.AnchorsAdmitsSaid :=
  OpenClaim.holds_of_wide 4 Tryd.f4 rfl rfl rfl rfl rfl rfl rfl ⟨rfl, rfl, rfl, rfl, rfl⟩ rfl rfl rfl rfl rfl (by kernel_rfl) Tryd.func4 (by kernel_rfl)
    (of_decide_eq_true (by kernel_rfl)) (by unfold Func.isWrapper; first | (rw [if_pos (by decide +kernel)]; kernel_rfl) | (rw [if_neg (by decide +kernel)]; exact ⟨rfl, rfl⟩))
    (fun os started H enc _ => anchorsAdmits_lifted os started H enc)
theorem anchorsAdmits_holds : Rows.AnchorsAdmitsCardSaid :=
  Claim7.holds_tied_plain_at .later [] [.data, .data] true (true, "0430b2dba3adda1f0d458d7405236ae42c58fa7ca8dd3d017c0902769a5bc61d") false anchorsAdmits_said (fun _ h => by cases h) (by kernel_rfl) (fun _ h => by cases h) anchorsAdmits_row_tie rfl ⟨rfl, rfl⟩ (by kernel_rfl) rfl
    (fun f fn hf hfn => by
      obtain rfl : f = 4 := Option.some.inj ((show Tryd.prog.funcNamed "estreat/estreatlaw13.AnchorsAdmits" = some 4 by kernel_rfl).symm.trans hf) |>.symm
      obtain rfl : fn = Tryd.f4 := (Option.some.inj (Tryd.func4.symm.trans hfn)).symm
      exact ⟨by kernel_rfl, fun j t ht => by
        rw [show Tryd.f4.params = #[38, 22, 30, 3, 39, 30] from rfl] at ht
        have hm : t ∈ [38, 22, 30, 3, 39, 30] := by simpa using Array.mem_of_getElem? ht
        have hall : ([38, 22, 30, 3, 39, 30].all fun u => !Tryd.prog.wantsStandIn u) = true := by kernel_rfl
        exact (show Tryd.prog.wantsStandIn t = false by simpa using List.all_eq_true.1 hall t hm)⟩)
    (by kernel_rfl)
#print axioms anchorsAdmits_holds
end Go.Proofs.YtgmnjggeffdjhaaDoor
