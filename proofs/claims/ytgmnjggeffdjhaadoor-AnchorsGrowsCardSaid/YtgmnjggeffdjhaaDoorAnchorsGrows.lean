/- AnchorsGrows: the law's card. -/
import Derived.Test.YtgmnjggeffdjhaaDoorTabsB
import Derived.Test.YtgmnjggeffdjhaaDoorG2
import Derived.Test.YtgmnjggeffdjhaaDoorFlatG
namespace Go.Proofs.YtgmnjggeffdjhaaDoor
open Go.ChangeShapes Go.WideShapes Go.ChangeAt Go.RowKit
set_option linter.unusedVariables false
set_option linter.unusedSimpArgs false

set_option maxRecDepth 100000 in
theorem anchorsGrows_lifted (os : Os) (started : os.Started) (H : Type) (enc : TypeId × Value → H) :
    ReturnsInHanded {} Tryd.checked os 8 .any (fun w args => (Rows.anchorsGrowsSpec.pre enc Tryd.prog Tryd.f8 Rows.anchorsGrowsRow.domain false w args ∧ laidMetH Tryd.prog Rows.anchorsGrowsRow.laid w) ∧ sizedMet enc Tryd.prog Tryd.f8 (OpenSpec.ofChange Rows.anchorsGrowsSpec) false w args)
      (Rows.anchorsGrowsSpec.post enc Tryd.prog Tryd.f8 false true false false) := by
  refine returnsInHanded_of_change_and (C := Tryd.checked) (X := fun w _ => laidMetH Tryd.prog Rows.anchorsGrowsRow.laid w) (fun _ _ _ hh h => h.of_heap hh) own started (by kernel_rfl) Tryd.func8
    (ChangeSpec.witness_shaped (enc := enc) (C := Tryd.checked) (os := os) (X := fun w _ => laidMetH Tryd.prog Rows.anchorsGrowsRow.laid w) false (World.laidAll Tryd.prog os Rows.anchorsGrowsRow.laid) #[.slice none 0 0, .slice none 0 0, .slice none 0 0, .int .i64 0, .int .i64 0] 8 (World.laidAll_os _ _ _)
      (World.shaped_of_ZipB (by kernel_rfl) (by kernel_rfl)) (by kernel_rfl) (by kernel_rfl) (by kernel_rfl)
      (by rw [MakeChecks.laidMetH_plain _ _ _ (by kernel_rfl)]; exact laidMet_laidAll _ (by kernel_rfl) (by kernel_rfl))) ?_
  intro W base args ds gs before hval0 hW hc _ hL _
  obtain ⟨L, rfl⟩ : ∃ L : List Value, args = L.toArray := ⟨args.toList, by simp⟩
  have hval : ∀ (j : Nat) t v, Tryd.f8.params[j]? = some t → L.toArray[j]? = some v → Value.okWide Tryd.prog W .any base t v := hval0
  have hW' := hW
  obtain ⟨p, q, hA0, hV, _, _, _⟩ := hW'
  have hA : DataW.TrodAll enc Tryd.prog W 0 (fun _ => true) true Tryd.f8.params.toList L ds p := hA0
  rw [show Tryd.f8.params = #[22, 22, 58, 3, 3] from rfl] at hA hval
  have hB : DataW.TrodAll enc Tryd.prog W 0 (fun _ => true) true [22, 22, 58, 3, 3] L ds p := hA
  obtain ⟨v0, L0, d0, D0, p0, q0, rfl, rfl, rfl, h0, hB0⟩ := trodAll_cons hB
  obtain ⟨v1, L1, d1, D1, p1, q1, rfl, rfl, rfl, h1, hB1⟩ := trodAll_cons hB0
  obtain ⟨v2, L2, d2, D2, p2, q2, rfl, rfl, rfl, h2, hB2⟩ := trodAll_cons hB1
  obtain ⟨v3, L3, d3, D3, p3, q3, rfl, rfl, rfl, h3, hB3⟩ := trodAll_cons hB2
  obtain ⟨v4, L4, d4, D4, p4, q4, rfl, rfl, rfl, h4, hB4⟩ := trodAll_cons hB3
  obtain ⟨rfl, rfl, rfl⟩ := trodAll_nil hB4
  have hrel0 := hrel_of_laid (by kernel_rfl) hL (by simp [Rows.anchorsGrowsRow]) (by simp [Rows.anchorsGrowsRow])
  have hro0 : ∀ (b : Nat) (r : Flat.Reg), (fun _ => none : Flat.MapM) b = some r → r.wr = false := fun _ _ h => by cases h
  obtain ⟨x0, c0, m0, l0, u0, ok0, hrel1, hro1, hext0, hv0⟩ := hrel0.addRw hro0 Flat.cItem (Flat.opens_Item) (by kernel_rfl) (by kernel_rfl) (fun _ => rfl) (hval 0 22 v0 rfl rfl) h0
  obtain ⟨x1, c1, m1, l1, u1, ok1, hrel2, hro2, hext1, hv1⟩ := hrel1.addRw hro1 Flat.cItem (Flat.opens_Item) (by kernel_rfl) (by kernel_rfl) (fun _ => rfl) (hval 1 22 v1 rfl rfl) h1
  obtain ⟨x2, c2, m2, l2, u2, ok2, hrel3, hro3, hext2, hv2⟩ := hrel2.addRw hro2 Flat.cInt (Flat.Opens.int (P := Tryd.prog) (t := 3) (by kernel_rfl)) (by kernel_rfl) (by kernel_rfl) (fun _ => rfl) (hval 2 58 v2 rfl rfl) h2
  obtain ⟨x3, rfl, b3⟩ := Flat.Opens.one (enc := fun z : Int => .int .i64 z) (Flat.Opens.int (by kernel_rfl : Tryd.prog.underlying 3 = some (.int .i64))) (.inr (.inr ⟨.i64, by kernel_rfl⟩)) (hval 3 3 v3 rfl rfl) h3
  obtain ⟨x4, rfl, b4⟩ := Flat.Opens.one (enc := fun z : Int => .int .i64 z) (Flat.Opens.int (by kernel_rfl : Tryd.prog.underlying 3 = some (.int .i64))) (.inr (.inr ⟨.i64, by kernel_rfl⟩)) (hval 4 3 v4 rfl rfl) h4
  exact Flat.law_calls (argsL := [Flat.slv 0 0 x0.length c0, Flat.slv 1 0 x1.length c1, Flat.slv 2 0 x2.length c2, .int .i64 x3, .int .i64 x4]) hW rfl rfl rfl (by kernel_rfl : Tryd.prog.underlying 4 = some .bool) (by kernel_rfl) (by kernel_rfl) hro3 hrel3 (Flat.L2.cons (((hv0).mono hext1).mono hext2) (Flat.L2.cons ((hv1).mono hext2) (Flat.L2.cons (hv2) (Flat.L2.cons (rfl) (Flat.L2.cons (rfl) Flat.L2.nil))))) (Flat.AnchorsGrows_ok kk hG hG1 x0 c0 l0 u0 x1 c1 l1 u1 x2 c2 l2 u2 x3 x4)
theorem anchorsGrows_said : Rows.AnchorsGrowsSaid :=
  OpenClaim.holds_of_wide 8 Tryd.f8 rfl rfl rfl rfl rfl rfl rfl ⟨rfl, rfl, rfl, rfl, rfl⟩ rfl rfl rfl rfl rfl (by kernel_rfl) Tryd.func8 (by kernel_rfl)
    (of_decide_eq_true (by kernel_rfl)) (by unfold Func.isWrapper; first | (rw [if_pos (by decide +kernel)]; kernel_rfl) | (rw [if_neg (by decide +kernel)]; exact ⟨rfl, rfl⟩))
    (fun os started H enc _ => anchorsGrows_lifted os started H enc)
theorem anchorsGrows_holds : Rows.AnchorsGrowsCardSaid :=
  Claim7.holds_tied_plain_at .later [] [.data, .data, .data] true (true, "0430b2dba3adda1f0d458d7405236ae42c58fa7ca8dd3d017c0902769a5bc61d") false anchorsGrows_said (fun _ h => by cases h) (by kernel_rfl) (fun _ h => by cases h) anchorsGrows_row_tie rfl ⟨rfl, rfl⟩ (by kernel_rfl) rfl
    (fun f fn hf hfn => by
      obtain rfl : f = 8 := Option.some.inj ((show Tryd.prog.funcNamed "estreat/estreatlaw13.AnchorsGrows" = some 8 by kernel_rfl).symm.trans hf) |>.symm
      obtain rfl : fn = Tryd.f8 := (Option.some.inj (Tryd.func8.symm.trans hfn)).symm
      exact ⟨by kernel_rfl, fun j t ht => by
        rw [show Tryd.f8.params = #[22, 22, 58, 3, 3] from rfl] at ht
        have hm : t ∈ [22, 22, 58, 3, 3] := by simpa using Array.mem_of_getElem? ht
        have hall : ([22, 22, 58, 3, 3].all fun u => !Tryd.prog.wantsStandIn u) = true := by kernel_rfl
        exact (show Tryd.prog.wantsStandIn t = false by simpa using List.all_eq_true.1 hall t hm)⟩)
    (by kernel_rfl)
#print axioms anchorsGrows_holds
end Go.Proofs.YtgmnjggeffdjhaaDoor
