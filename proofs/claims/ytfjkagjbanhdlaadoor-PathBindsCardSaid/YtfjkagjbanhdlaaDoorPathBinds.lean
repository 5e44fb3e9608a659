/- PathBinds: the law's card. -/
import Derived.Test.YtfjkagjbanhdlaaDoorRef
import Derived.Test.YtfjkagjbanhdlaaDoorT4
import Derived.Test.YtfjkagjbanhdlaaDoorT1
set_option linter.unusedVariables false
set_option linter.unusedSimpArgs false
namespace Go.Proofs.YtfjkagjbanhdlaaDoor
open Go.ChangeShapes Go.WideShapes Go.ChangeAt Go.RowKit

set_option maxRecDepth 100000 in
theorem pathBinds_lifted (os : Os) (started : os.Started) (H : Type) (enc : TypeId × Value → H) :
    ReturnsInHanded {} Tryd.checked os 6 .any (fun w args => (Rows.pathBindsSpec.pre enc Tryd.prog Tryd.f6 Rows.pathBindsRow.domain false w args ∧ laidMetH Tryd.prog Rows.pathBindsRow.laid w) ∧ sizedMet enc Tryd.prog Tryd.f6 (OpenSpec.ofChange Rows.pathBindsSpec) false w args)
      (Rows.pathBindsSpec.post enc Tryd.prog Tryd.f6 false true false false) := by
  refine returnsInHanded_of_change_and (C := Tryd.checked) (X := fun w _ => laidMetH Tryd.prog Rows.pathBindsRow.laid w) (fun _ _ _ hh h => h.of_heap hh) own started (by kernel_rfl) Tryd.func6
    (ChangeSpec.witness_shaped (enc := enc) (C := Tryd.checked) (os := os) (X := fun w _ => laidMetH Tryd.prog Rows.pathBindsRow.laid w) false (World.laidAll Tryd.prog os Rows.pathBindsRow.laid) #[.agg #[.int .u8 0, .int .u8 0, .int .u8 0, .int .u8 0, .int .u8 0, .int .u8 0, .int .u8 0, .int .u8 0, .int .u8 0, .int .u8 0, .int .u8 0, .int .u8 0, .int .u8 0, .int .u8 0, .int .u8 0, .int .u8 0, .int .u8 0, .int .u8 0, .int .u8 0, .int .u8 0, .int .u8 0, .int .u8 0, .int .u8 0, .int .u8 0, .int .u8 0, .int .u8 0, .int .u8 0, .int .u8 0, .int .u8 0, .int .u8 0, .int .u8 0, .int .u8 0], .agg #[.int .i64 0, .int .i64 0, .int .i64 0, .int .i64 0, .int .i64 0, .string ⟨#[]⟩, .int .i64 0, .int .i64 0, .int .i64 0, .int .u8 0, .int .u8 0, .int .u8 0, .int .u8 0, .int .u8 0, .int .u8 0, .int .u8 0, .int .u8 0, .int .u8 0, .int .u8 0, .int .u8 0, .int .u8 0, .int .u8 0, .int .u8 0, .int .u8 0, .int .u8 0, .int .u8 0, .int .u8 0, .int .u8 0, .int .u8 0, .int .u8 0, .int .u8 0, .int .u8 0, .int .u8 0, .int .u8 0, .int .u8 0, .int .u8 0, .int .u8 0, .int .u8 0, .int .u8 0, .int .u8 0, .int .u8 0, .int .i64 0, .int .i64 0, .int .u8 0, .int .u8 0, .int .u8 0, .int .u8 0, .int .u8 0, .int .u8 0, .int .u8 0, .int .u8 0, .int .u8 0, .int .u8 0, .int .u8 0, .int .u8 0, .int .u8 0, .int .u8 0, .int .u8 0, .int .u8 0, .int .u8 0, .int .u8 0, .int .u8 0, .int .u8 0, .int .u8 0, .int .u8 0, .int .u8 0, .int .u8 0, .int .u8 0, .int .u8 0, .int .u8 0, .int .u8 0, .int .u8 0, .int .u8 0, .int .u8 0, .int .u8 0, .int .i64 0, .int .i64 0, .int .i64 0, .int .i64 0, .int .u8 0, .int .u8 0, .int .u8 0, .int .u8 0, .int .u8 0, .int .u8 0, .int .u8 0, .int .u8 0, .int .u8 0, .int .u8 0, .int .u8 0, .int .u8 0, .int .u8 0, .int .u8 0, .int .u8 0, .int .u8 0, .int .u8 0, .int .u8 0, .int .u8 0, .int .u8 0, .int .u8 0, .int .u8 0, .int .u8 0, .int .u8 0, .int .u8 0, .int .u8 0, .int .u8 0, .int .u8 0, .int .u8 0, .int .u8 0, .int .u8 0, .int .u8 0, .slice none 0 0, .int .i64 0, .int .i64 0, .int .i64 0, .int .u8 0, .int .u8 0, .int .u8 0, .int .u8 0, .int .u8 0, .int .u8 0, .int .u8 0, .int .u8 0, .int .u8 0, .int .u8 0, .int .u8 0, .int .u8 0, .int .u8 0, .int .u8 0, .int .u8 0, .int .u8 0, .int .u8 0, .int .u8 0, .int .u8 0, .int .u8 0, .int .u8 0, .int .u8 0, .int .u8 0, .int .u8 0, .int .u8 0, .int .u8 0, .int .u8 0, .int .u8 0, .int .u8 0, .int .u8 0, .int .u8 0, .int .u8 0, .int .i64 0, .int .i64 0, .int .u8 0, .int .u8 0, .int .u8 0, .int .u8 0, .int .u8 0, .int .u8 0, .int .u8 0, .int .u8 0, .int .u8 0, .int .u8 0, .int .u8 0, .int .u8 0, .int .u8 0, .int .u8 0, .int .u8 0, .int .u8 0, .int .u8 0, .int .u8 0, .int .u8 0, .int .u8 0, .int .u8 0, .int .u8 0, .int .u8 0, .int .u8 0, .int .u8 0, .int .u8 0, .int .u8 0, .int .u8 0, .int .u8 0, .int .u8 0, .int .u8 0, .int .u8 0], .agg #[.int .i64 0, .int .i64 0, .int .i64 0, .int .i64 0, .int .i64 0, .string ⟨#[]⟩, .int .i64 0, .int .i64 0, .int .i64 0, .int .u8 0, .int .u8 0, .int .u8 0, .int .u8 0, .int .u8 0, .int .u8 0, .int .u8 0, .int .u8 0, .int .u8 0, .int .u8 0, .int .u8 0, .int .u8 0, .int .u8 0, .int .u8 0, .int .u8 0, .int .u8 0, .int .u8 0, .int .u8 0, .int .u8 0, .int .u8 0, .int .u8 0, .int .u8 0, .int .u8 0, .int .u8 0, .int .u8 0, .int .u8 0, .int .u8 0, .int .u8 0, .int .u8 0, .int .u8 0, .int .u8 0, .int .u8 0, .int .i64 0, .int .i64 0, .int .u8 0, .int .u8 0, .int .u8 0, .int .u8 0, .int .u8 0, .int .u8 0, .int .u8 0, .int .u8 0, .int .u8 0, .int .u8 0, .int .u8 0, .int .u8 0, .int .u8 0, .int .u8 0, .int .u8 0, .int .u8 0, .int .u8 0, .int .u8 0, .int .u8 0, .int .u8 0, .int .u8 0, .int .u8 0, .int .u8 0, .int .u8 0, .int .u8 0, .int .u8 0, .int .u8 0, .int .u8 0, .int .u8 0, .int .u8 0, .int .u8 0, .int .u8 0, .int .i64 0, .int .i64 0, .int .i64 0, .int .i64 0, .int .u8 0, .int .u8 0, .int .u8 0, .int .u8 0, .int .u8 0, .int .u8 0, .int .u8 0, .int .u8 0, .int .u8 0, .int .u8 0, .int .u8 0, .int .u8 0, .int .u8 0, .int .u8 0, .int .u8 0, .int .u8 0, .int .u8 0, .int .u8 0, .int .u8 0, .int .u8 0, .int .u8 0, .int .u8 0, .int .u8 0, .int .u8 0, .int .u8 0, .int .u8 0, .int .u8 0, .int .u8 0, .int .u8 0, .int .u8 0, .int .u8 0, .int .u8 0, .slice none 0 0, .int .i64 0, .int .i64 0, .int .i64 0, .int .u8 0, .int .u8 0, .int .u8 0, .int .u8 0, .int .u8 0, .int .u8 0, .int .u8 0, .int .u8 0, .int .u8 0, .int .u8 0, .int .u8 0, .int .u8 0, .int .u8 0, .int .u8 0, .int .u8 0, .int .u8 0, .int .u8 0, .int .u8 0, .int .u8 0, .int .u8 0, .int .u8 0, .int .u8 0, .int .u8 0, .int .u8 0, .int .u8 0, .int .u8 0, .int .u8 0, .int .u8 0, .int .u8 0, .int .u8 0, .int .u8 0, .int .u8 0, .int .i64 0, .int .i64 0, .int .u8 0, .int .u8 0, .int .u8 0, .int .u8 0, .int .u8 0, .int .u8 0, .int .u8 0, .int .u8 0, .int .u8 0, .int .u8 0, .int .u8 0, .int .u8 0, .int .u8 0, .int .u8 0, .int .u8 0, .int .u8 0, .int .u8 0, .int .u8 0, .int .u8 0, .int .u8 0, .int .u8 0, .int .u8 0, .int .u8 0, .int .u8 0, .int .u8 0, .int .u8 0, .int .u8 0, .int .u8 0, .int .u8 0, .int .u8 0, .int .u8 0, .int .u8 0]] 8 (World.laidAll_os _ _ _)
      (World.shaped_of_ZipB (by kernel_rfl) (by kernel_rfl)) (by kernel_rfl) (by kernel_rfl) (by kernel_rfl)
      (by rw [MakeChecks.laidMetH_plain _ _ _ (by kernel_rfl)]; exact laidMet_laidAll _ (by kernel_rfl) (by kernel_rfl))) ?_
  intro W base args ds gs before hval0 hW hc _ hL _
  obtain ⟨L, rfl⟩ : ∃ L : List Value, args = L.toArray := ⟨args.toList, by simp⟩
  have hval : ∀ (j : Nat) t v, Tryd.f6.params[j]? = some t → L.toArray[j]? = some v → Value.okWide Tryd.prog W .any base t v := hval0
  have hW' := hW
  obtain ⟨p, q, hA0, hV, _, _, _⟩ := hW'
  have hA : DataW.TrodAll enc Tryd.prog W 0 (fun _ => true) true Tryd.f6.params.toList L ds p := hA0
  rw [show Tryd.f6.params = #[23, 46, 46] from rfl] at hA hval
  have hB : DataW.TrodAll enc Tryd.prog W 0 (fun _ => true) true [23, 46, 46] L ds p := hA
  obtain ⟨v0, L0, d0, D0, p0, q0, rfl, rfl, rfl, h0, hB0⟩ := trodAll_cons hB
  obtain ⟨v1, L1, d1, D1, p1, q1, rfl, rfl, rfl, h1, hB1⟩ := trodAll_cons hB0
  obtain ⟨v2, L2, d2, D2, p2, q2, rfl, rfl, rfl, h2, hB2⟩ := trodAll_cons hB1
  obtain ⟨rfl, rfl, rfl⟩ := trodAll_nil hB2
  have hrel0 := hrel_of_laid (by kernel_rfl) hL (by simp [Rows.pathBindsRow]) (by simp [Rows.pathBindsRow])
  have hro0 : ∀ (b : Nat) (r : Flat.Reg), (fun _ => none : Flat.MapM) b = some r → r.wr = false := fun _ _ h => by cases h
  obtain ⟨x0, rfl, b0⟩ := Flat.Zao.val (Flat.Zao.bytes (n := 32) (by kernel_rfl : Tryd.prog.underlying 23 = some (.array 32 5)) (by kernel_rfl) (by kernel_rfl) (by kernel_rfl)) (.inr ⟨32, 5, by kernel_rfl⟩) (hval 0 23 v0 rfl rfl) h0
  obtain ⟨cs1, rfl⟩ := Flat.Zpr (t := 46) ⟨_, rfl⟩ (hval 1 46 v1 rfl rfl)
  obtain ⟨fu1, hf1⟩ := h1
  obtain ⟨xs1, nn1, _, _, hl1, hxl1, hel1⟩ := DataW.trod_struct (P := Tryd.prog) (t := 46) (fs := _) (cs := cs1) rfl hf1
  have hl'1 : cs1.length = 181 := hl1.trans (by kernel_rfl)
  obtain ⟨a1_0, e1_0, b1_0⟩ := Flat.Zao.at_ (t := 3) (off := 0) (k := 1) (Flat.Zao.int (by kernel_rfl : Tryd.prog.underlying 3 = some (.int .i64))) (hel1 0 _ rfl) (by rw [hxl1]; decide) rfl (by kernel_rfl) rfl
  have q1_0 : cs1.drop 0 = [Value.int .i64 a1_0] ++ cs1.drop 1 := by rw [Flat.Zax 0 1, e1_0]
  obtain ⟨a1_1, e1_1, b1_1⟩ := Flat.Zao.at_ (t := 43) (off := 1) (k := 110) (Flat.Zln) (hel1 1 _ rfl) (by rw [hxl1]; decide) rfl (by kernel_rfl) rfl
  have q1_1 : cs1.drop 1 = Flat.Zh a1_1 ++ cs1.drop 111 := by rw [Flat.Zax 1 110, e1_1]
  obtain ⟨v1_2, x1_2, c1_2, m1_2, e1_2, l1_2, u1_2, ok1_2, hrel1_2, hro1_2, hext1_2, hv1_2⟩ := hrel0.addAt (off := 111) hro0 Flat.cDg (Flat.Zao.bytes (n := 32) (tb := 5) (by kernel_rfl) (by kernel_rfl) (by kernel_rfl) (by kernel_rfl)) (by kernel_rfl : Tryd.prog.underlying 44 = some (.slice 26)) (by kernel_rfl) (fun _ => by kernel_rfl) (hel1 2 _ rfl) (by rw [hxl1]; decide) rfl (by kernel_rfl) rfl
  have q1_2 : cs1.drop 111 = [v1_2] ++ cs1.drop 112 := by rw [Flat.Zax 111 1, e1_2]
  obtain ⟨a1_3, e1_3, b1_3⟩ := Flat.Zao.at_ (t := 33) (off := 112) (k := 69) (Flat.Zje) (hel1 3 _ rfl) (by rw [hxl1]; decide) rfl (by kernel_rfl) rfl
  have q1_3 : cs1.drop 112 = Flat.Zd a1_3 ++ cs1.drop 181 := by rw [Flat.Zax 112 69, e1_3]
  have qe1 : cs1.drop 181 = [] := List.drop_of_length_le (by omega)
  rw [List.drop_zero] at q1_0
  have hcs1 := q1_0
  rw [q1_1, q1_2, q1_3, qe1] at hcs1
  obtain ⟨cs2, rfl⟩ := Flat.Zpr (t := 46) ⟨_, rfl⟩ (hval 2 46 v2 rfl rfl)
  obtain ⟨fu2, hf2⟩ := h2
  obtain ⟨xs2, nn2, _, _, hl2, hxl2, hel2⟩ := DataW.trod_struct (P := Tryd.prog) (t := 46) (fs := _) (cs := cs2) rfl hf2
  have hl'2 : cs2.length = 181 := hl2.trans (by kernel_rfl)
  obtain ⟨a2_0, e2_0, b2_0⟩ := Flat.Zao.at_ (t := 3) (off := 0) (k := 1) (Flat.Zao.int (by kernel_rfl : Tryd.prog.underlying 3 = some (.int .i64))) (hel2 0 _ rfl) (by rw [hxl2]; decide) rfl (by kernel_rfl) rfl
  have q2_0 : cs2.drop 0 = [Value.int .i64 a2_0] ++ cs2.drop 1 := by rw [Flat.Zax 0 1, e2_0]
  obtain ⟨a2_1, e2_1, b2_1⟩ := Flat.Zao.at_ (t := 43) (off := 1) (k := 110) (Flat.Zln) (hel2 1 _ rfl) (by rw [hxl2]; decide) rfl (by kernel_rfl) rfl
  have q2_1 : cs2.drop 1 = Flat.Zh a2_1 ++ cs2.drop 111 := by rw [Flat.Zax 1 110, e2_1]
  obtain ⟨v2_2, x2_2, c2_2, m2_2, e2_2, l2_2, u2_2, ok2_2, hrel2_2, hro2_2, hext2_2, hv2_2⟩ := hrel1_2.addAt (off := 111) hro1_2 Flat.cDg (Flat.Zao.bytes (n := 32) (tb := 5) (by kernel_rfl) (by kernel_rfl) (by kernel_rfl) (by kernel_rfl)) (by kernel_rfl : Tryd.prog.underlying 44 = some (.slice 26)) (by kernel_rfl) (fun _ => by kernel_rfl) (hel2 2 _ rfl) (by rw [hxl2]; decide) rfl (by kernel_rfl) rfl
  have q2_2 : cs2.drop 111 = [v2_2] ++ cs2.drop 112 := by rw [Flat.Zax 111 1, e2_2]
  obtain ⟨a2_3, e2_3, b2_3⟩ := Flat.Zao.at_ (t := 33) (off := 112) (k := 69) (Flat.Zje) (hel2 3 _ rfl) (by rw [hxl2]; decide) rfl (by kernel_rfl) rfl
  have q2_3 : cs2.drop 112 = Flat.Zd a2_3 ++ cs2.drop 181 := by rw [Flat.Zax 112 69, e2_3]
  have qe2 : cs2.drop 181 = [] := List.drop_of_length_le (by omega)
  rw [List.drop_zero] at q2_0
  have hcs2 := q2_0
  rw [q2_1, q2_2, q2_3, qe2] at hcs2
  exact Flat.Zra (argsL := [Flat.dgV x0, Flat.mxV ([Value.int .i64 a1_0] ++ (Flat.Zh a1_1 ++ ([Flat.slv 0 0 x1_2.length c1_2] ++ (Flat.Zd a1_3 ++ ([] : List Value))))), Flat.mxV ([Value.int .i64 a2_0] ++ (Flat.Zh a2_1 ++ ([Flat.slv 1 0 x2_2.length c2_2] ++ (Flat.Zd a2_3 ++ ([] : List Value)))))]) hW rfl rfl rfl (by kernel_rfl : Tryd.prog.underlying 4 = some .bool) (by kernel_rfl) (by kernel_rfl) hro2_2 hrel2_2 (Flat.L2.cons (Flat.VR.of_pure (Flat.Zb0 fun _ => rfl)) (Flat.L2.cons (by rw [hcs1]; exact Flat.VR.mx (Flat.L2.append (Flat.L2.pure (a := [Value.int .i64 a1_0]) (by kernel_rfl)) (Flat.L2.append (Flat.L2.pure (a := Flat.Zh a1_1) (by kernel_rfl)) (Flat.L2.append (Flat.L2.cell ((hv1_2).mono hext2_2)) (Flat.L2.append (Flat.L2.pure (a := Flat.Zd a1_3) (by kernel_rfl)) Flat.L2.nil))))) (Flat.L2.cons (by rw [hcs2]; exact Flat.VR.mx (Flat.L2.append (Flat.L2.pure (a := [Value.int .i64 a2_0]) (by kernel_rfl)) (Flat.L2.append (Flat.L2.pure (a := Flat.Zh a2_1) (by kernel_rfl)) (Flat.L2.append (Flat.L2.cell (hv2_2)) (Flat.L2.append (Flat.L2.pure (a := Flat.Zd a2_3) (by kernel_rfl)) Flat.L2.nil))))) Flat.L2.nil))) (Flat.Zr2 kk hG hG1 x0 (⟨a1_0, a1_1, x1_2, a1_3⟩ : Flat.PStep) x1_2.length c1_2 rfl l1_2 (by omega) ⟨⟨b1_0.1, b1_0.2⟩, b1_3.1.2.2.1.1, b1_3.1.2.2.1.2⟩ (⟨a2_0, a2_1, x2_2, a2_3⟩ : Flat.PStep) x2_2.length c2_2 rfl l2_2 (by omega) ⟨⟨b2_0.1, b2_0.2⟩, b2_3.1.2.2.1.1, b2_3.1.2.2.1.2⟩)
theorem pathBinds_said : Rows.PathBindsSaid :=
 OpenClaim.holds_of_wide 6 Tryd.f6 rfl rfl rfl rfl rfl rfl rfl ⟨rfl, rfl, rfl, rfl, rfl⟩ rfl rfl rfl rfl rfl (by kernel_rfl) Tryd.func6 (by kernel_rfl)
  (of_decide_eq_true (by kernel_rfl)) (by unfold Func.isWrapper; first | (rw [if_pos (by decide +kernel)]; kernel_rfl) | (rw [if_neg (by decide +kernel)]; exact ⟨rfl, rfl⟩))
  (fun os started H enc _ => pathBinds_lifted os started H enc)
theorem pathBinds_holds : Rows.PathBindsCardSaid :=
  Claim7.holds_tied_plain_at .later [] [.data, .data, .data] true (true, "862ff8e685f9f966162aa879629f3cacd6343cea3adde5194f16c6dec23f81a9") false pathBinds_said (fun _ h => by cases h) (by kernel_rfl) (fun _ h => by cases h) pathBinds_row_tie rfl ⟨rfl, rfl⟩ (by kernel_rfl) rfl
    (fun f fn hf hfn => by
      obtain rfl : f = 6 := Option.some.inj ((show Tryd.prog.funcNamed "estreat/estreatlaw14.PathBinds" = some 6 by kernel_rfl).symm.trans hf) |>.symm
      obtain rfl : fn = Tryd.f6 := (Option.some.inj (Tryd.func6.symm.trans hfn)).symm
      exact ⟨by kernel_rfl, fun j t ht => by
        rw [show Tryd.f6.params = #[23, 46, 46] from rfl] at ht
        have hm : t ∈ [23, 46, 46] := by simpa using Array.mem_of_getElem? ht
        have hall : ([23, 46, 46].all fun u => !Tryd.prog.wantsStandIn u) = true := by kernel_rfl
        exact (show Tryd.prog.wantsStandIn t = false by simpa using List.all_eq_true.1 hall t hm)⟩)
    (by kernel_rfl)
#print axioms pathBinds_holds
end Go.Proofs.YtfjkagjbanhdlaaDoor
