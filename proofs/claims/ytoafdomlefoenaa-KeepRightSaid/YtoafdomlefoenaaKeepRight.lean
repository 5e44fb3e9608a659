/- KeepRight: the law's card. -/
import Derived.Test.YtoafdomlefoenaaFlatG
import Derived.Test.YtoafdomlefoenaaN11
import Derived.Test.YtoafdomlefoenaaN1
set_option linter.unusedVariables false
set_option linter.unusedSimpArgs false
namespace Go.Proofs.Ytoafdomlefoenaa
open Go.ChangeShapes Go.WideShapes Go.ChangeAt Go.RowKit

set_option maxRecDepth 100000 in
theorem keepRight_lifted (os : Os) (started : os.Started) (H : Type) (enc : TypeId × Value → H) :
    ReturnsInHanded {} Try.checked os 5 .any (Rows.keepRightSpec.pre6 enc Try.prog Try.f5 Rows.keepRightRow.domain false)
      (Rows.keepRightSpec.post enc Try.prog Try.f5 false true false false) := by
  refine returnsInHanded_of_change (C := Try.checked) own started (by kernel_rfl) Try.func5
    (by
      obtain ⟨w, tape, i, h1, h2, h3, h4, ⟨⟨hp, _⟩, hs⟩, h5⟩ := ChangeSpec.witness_shaped (f := 5) (fn := Try.f5) (s := Rows.keepRightSpec) (conds := Rows.keepRightRow.domain) (apart := false) (enc := enc) (C := Try.checked) (os := os) (X := fun _ _ => True) false (World.laidAll Try.prog os []) #[.agg #[.int .i64 0, .int .i64 0, .slice none 0 0, .slice none 0 0], .agg #[.int .i64 0, .int .i64 0, .int .i64 0, .int .i64 0, .int .i64 0, .int .i64 0, .int .i64 0, .string ⟨#[]⟩, .int .i64 0, .int .i64 0, .int .i64 0, .int .u8 0, .int .u8 0, .int .u8 0, .int .u8 0, .int .u8 0, .int .u8 0, .int .u8 0, .int .u8 0, .int .u8 0, .int .u8 0, .int .u8 0, .int .u8 0, .int .u8 0, .int .u8 0, .int .u8 0, .int .u8 0, .int .u8 0, .int .u8 0, .int .u8 0, .int .u8 0, .int .u8 0, .int .u8 0, .int .u8 0, .int .u8 0, .int .u8 0, .int .u8 0, .int .u8 0, .int .u8 0, .int .u8 0, .int .u8 0, .int .u8 0, .int .u8 0, .int .i64 0, .int .i64 0, .int .u8 0, .int .u8 0, .int .u8 0, .int .u8 0, .int .u8 0, .int .u8 0, .int .u8 0, .int .u8 0, .int .u8 0, .int .u8 0, .int .u8 0, .int .u8 0, .int .u8 0, .int .u8 0, .int .u8 0, .int .u8 0, .int .u8 0, .int .u8 0, .int .u8 0, .int .u8 0, .int .u8 0, .int .u8 0, .int .u8 0, .int .u8 0, .int .u8 0, .int .u8 0, .int .u8 0, .int .u8 0, .int .u8 0, .int .u8 0, .int .u8 0, .int .u8 0, .int .i64 0, .int .i64 0, .int .i64 0, .int .i64 0, .int .u8 0, .int .u8 0, .int .u8 0, .int .u8 0, .int .u8 0, .int .u8 0, .int .u8 0, .int .u8 0, .int .u8 0, .int .u8 0, .int .u8 0, .int .u8 0, .int .u8 0, .int .u8 0, .int .u8 0, .int .u8 0, .int .u8 0, .int .u8 0, .int .u8 0, .int .u8 0, .int .u8 0, .int .u8 0, .int .u8 0, .int .u8 0, .int .u8 0, .int .u8 0, .int .u8 0, .int .u8 0, .int .u8 0, .int .u8 0, .int .u8 0, .int .u8 0, .slice none 0 0, .int .i64 0, .int .i64 0, .int .i64 0, .int .i64 0, .int .u8 0, .int .u8 0, .int .u8 0, .int .u8 0, .int .u8 0, .int .u8 0, .int .u8 0, .int .u8 0, .int .u8 0, .int .u8 0, .int .u8 0, .int .u8 0, .int .u8 0, .int .u8 0, .int .u8 0, .int .u8 0, .int .u8 0, .int .u8 0, .int .u8 0, .int .u8 0, .int .u8 0, .int .u8 0, .int .u8 0, .int .u8 0, .int .u8 0, .int .u8 0, .int .u8 0, .int .u8 0, .int .u8 0, .int .u8 0, .int .u8 0, .int .u8 0]] 8 (World.laidAll_os _ _ _)
        (World.shaped_of_ZipB (by kernel_rfl) (by kernel_rfl)) (by kernel_rfl) (by kernel_rfl) (by kernel_rfl) trivial
      exact ⟨w, tape, i, h1, h2, h3, h4, ⟨hp, hs⟩, h5⟩) ?_
  intro W base args ds gs before hval0 hW hc _
  obtain ⟨L, rfl⟩ : ∃ L : List Value, args = L.toArray := ⟨args.toList, by simp⟩
  have hval : ∀ (j : Nat) t v, Try.f5.params[j]? = some t → L.toArray[j]? = some v → Value.okWide Try.prog W .any base t v := hval0
  have hW' := hW
  obtain ⟨p, q, hA0, hV, _, _, _⟩ := hW'
  have hA : DataW.TrodAll enc Try.prog W 0 (fun _ => true) true Try.f5.params.toList L ds p := hA0
  rw [show Try.f5.params = #[25, 42] from rfl] at hA hval
  have hB : DataW.TrodAll enc Try.prog W 0 (fun _ => true) true [25, 42] L ds p := hA
  obtain ⟨v0, L0, d0, D0, p0, q0, rfl, rfl, rfl, h0, hB0⟩ := trodAll_cons hB
  obtain ⟨v1, L1, d1, D1, p1, q1, rfl, rfl, rfl, h1, hB1⟩ := trodAll_cons hB0
  obtain ⟨rfl, rfl, rfl⟩ := trodAll_nil hB1
  have hrel0 := hrel0 (W := W)
  have hro0 : ∀ (b : Nat) (r : Flat.Reg), (fun _ => none : Flat.MapM) b = some r → r.wr = false := fun _ _ h => by cases h
  obtain ⟨cs0, rfl⟩ := Flat.Zls (t := 25) ⟨_, rfl⟩ (hval 0 25 v0 rfl rfl)
  obtain ⟨fu0, hf0⟩ := h0
  obtain ⟨xs0, nn0, _, _, hl0, hxl0, hel0⟩ := DataW.trod_struct (P := Try.prog) (t := 25) (fs := _) (cs := cs0) rfl hf0
  have hl'0 : cs0.length = 4 := hl0.trans (by kernel_rfl)
  obtain ⟨a0_0, e0_0, b0_0⟩ := Flat.Zak.at_ (t := 3) (off := 0) (k := 1) (Flat.Zak.int (by kernel_rfl : Try.prog.underlying 3 = some (.int .i64))) (hel0 0 _ rfl) (by rw [hxl0]; decide) rfl (by kernel_rfl) rfl
  have q0_0 : cs0.drop 0 = [Value.int .i64 a0_0] ++ cs0.drop 1 := by rw [Flat.Zal 0 1, e0_0]
  obtain ⟨a0_1, e0_1, b0_1⟩ := Flat.Zak.at_ (t := 3) (off := 1) (k := 1) (Flat.Zak.int (by kernel_rfl : Try.prog.underlying 3 = some (.int .i64))) (hel0 1 _ rfl) (by rw [hxl0]; decide) rfl (by kernel_rfl) rfl
  have q0_1 : cs0.drop 1 = [Value.int .i64 a0_1] ++ cs0.drop 2 := by rw [Flat.Zal 1 1, e0_1]
  obtain ⟨v0_2, x0_2, c0_2, m0_2, e0_2, l0_2, u0_2, ok0_2, hrel0_2, hro0_2, hext0_2, hv0_2⟩ := hrel0.addAt (off := 2) hro0 Flat.Zi (Flat.Zi0) (by kernel_rfl : Try.prog.underlying 22 = some (.slice 40)) (by kernel_rfl) (fun _ => rfl) (hel0 2 _ rfl) (by rw [hxl0]; decide) rfl (by kernel_rfl) rfl
  have q0_2 : cs0.drop 2 = [v0_2] ++ cs0.drop 3 := by rw [Flat.Zal 2 1, e0_2]
  obtain ⟨v0_3, x0_3, c0_3, m0_3, e0_3, l0_3, u0_3, ok0_3, hrel0_3, hro0_3, hext0_3, hv0_3⟩ := hrel0_2.addAt (off := 3) hro0_2 Flat.Zg (Flat.Zht) (by kernel_rfl : Try.prog.underlying 23 = some (.slice 36)) (by kernel_rfl) (fun _ => rfl) (hel0 3 _ rfl) (by rw [hxl0]; decide) rfl (by kernel_rfl) rfl
  have q0_3 : cs0.drop 3 = [v0_3] ++ cs0.drop 4 := by rw [Flat.Zal 3 1, e0_3]
  have qe0 : cs0.drop 4 = [] := List.drop_of_length_le (by omega)
  rw [List.drop_zero] at q0_0
  have hcs0 := q0_0
  rw [q0_1, q0_2, q0_3, qe0] at hcs0
  obtain ⟨cs1, rfl⟩ := Flat.Zls (t := 42) ⟨_, rfl⟩ (hval 1 42 v1 rfl rfl)
  obtain ⟨fu1, hf1⟩ := h1
  obtain ⟨xs1, nn1, _, _, hl1, hxl1, hel1⟩ := DataW.trod_struct (P := Try.prog) (t := 42) (fs := _) (cs := cs1) rfl hf1
  have hl'1 : cs1.length = 150 := hl1.trans (by kernel_rfl)
  obtain ⟨a1_0, e1_0, b1_0⟩ := Flat.Zak.at_ (t := 27) (off := 0) (k := 1) (Flat.Zak.int (by kernel_rfl : Try.prog.underlying 27 = some (.int .i64))) (hel1 0 _ rfl) (by rw [hxl1]; decide) rfl (by kernel_rfl) rfl
  have q1_0 : cs1.drop 0 = [Value.int .i64 a1_0] ++ cs1.drop 1 := by rw [Flat.Zal 0 1, e1_0]
  obtain ⟨a1_1, e1_1, b1_1⟩ := Flat.Zak.at_ (t := 3) (off := 1) (k := 1) (Flat.Zak.int (by kernel_rfl : Try.prog.underlying 3 = some (.int .i64))) (hel1 1 _ rfl) (by rw [hxl1]; decide) rfl (by kernel_rfl) rfl
  have q1_1 : cs1.drop 1 = [Value.int .i64 a1_1] ++ cs1.drop 2 := by rw [Flat.Zal 1 1, e1_1]
  obtain ⟨a1_2, e1_2, b1_2⟩ := Flat.Zak.at_ (t := 3) (off := 2) (k := 1) (Flat.Zak.int (by kernel_rfl : Try.prog.underlying 3 = some (.int .i64))) (hel1 2 _ rfl) (by rw [hxl1]; decide) rfl (by kernel_rfl) rfl
  have q1_2 : cs1.drop 2 = [Value.int .i64 a1_2] ++ cs1.drop 3 := by rw [Flat.Zal 2 1, e1_2]
  obtain ⟨a1_3, e1_3, b1_3⟩ := Flat.Zak.at_ (t := 40) (off := 3) (k := 110) (Flat.Zi0) (hel1 3 _ rfl) (by rw [hxl1]; decide) rfl (by kernel_rfl) rfl
  have q1_3 : cs1.drop 3 = Flat.Zs a1_3 ++ cs1.drop 113 := by rw [Flat.Zal 3 110, e1_3]
  obtain ⟨v1_4, x1_4, c1_4, m1_4, e1_4, l1_4, u1_4, ok1_4, hrel1_4, hro1_4, hext1_4, hv1_4⟩ := hrel0_3.addAt (off := 113) hro0_3 Flat.Zi (Flat.Zi0) (by kernel_rfl : Try.prog.underlying 22 = some (.slice 40)) (by kernel_rfl) (fun _ => rfl) (hel1 4 _ rfl) (by rw [hxl1]; decide) rfl (by kernel_rfl) rfl
  have q1_4 : cs1.drop 113 = [v1_4] ++ cs1.drop 114 := by rw [Flat.Zal 113 1, e1_4]
  obtain ⟨a1_5, e1_5, b1_5⟩ := Flat.Zak.at_ (t := 36) (off := 114) (k := 36) (Flat.Zht) (hel1 5 _ rfl) (by rw [hxl1]; decide) rfl (by kernel_rfl) rfl
  have q1_5 : cs1.drop 114 = Flat.Zr a1_5 ++ cs1.drop 150 := by rw [Flat.Zal 114 36, e1_5]
  have qe1 : cs1.drop 150 = [] := List.drop_of_length_le (by omega)
  rw [List.drop_zero] at q1_0
  have hcs1 := q1_0
  rw [q1_1, q1_2, q1_3, q1_4, q1_5, qe1] at hcs1
  exact Flat.Ztb (argsL := [Flat.mxV ([Value.int .i64 a0_0] ++ ([Value.int .i64 a0_1] ++ ([Flat.slv 0 0 x0_2.length c0_2] ++ ([Flat.slv 1 0 x0_3.length c0_3] ++ ([] : List Value))))), Flat.mxV ([Value.int .i64 a1_0] ++ ([Value.int .i64 a1_1] ++ ([Value.int .i64 a1_2] ++ (Flat.Zs a1_3 ++ ([Flat.slv 2 0 x1_4.length c1_4] ++ (Flat.Zr a1_5 ++ ([] : List Value)))))))]) hW rfl rfl rfl (by kernel_rfl : Try.prog.underlying 4 = some .bool) (by kernel_rfl) (by kernel_rfl) hro1_4 hrel1_4 (Flat.L2.cons (by rw [hcs0]; exact Flat.VR.mx (Flat.L2.append (Flat.L2.pure (a := [Value.int .i64 a0_0]) (by kernel_rfl)) (Flat.L2.append (Flat.L2.pure (a := [Value.int .i64 a0_1]) (by kernel_rfl)) (Flat.L2.append (Flat.L2.cell (((hv0_2).mono hext0_3).mono hext1_4)) (Flat.L2.append (Flat.L2.cell ((hv0_3).mono hext1_4)) Flat.L2.nil))))) (Flat.L2.cons (by rw [hcs1]; exact Flat.VR.mx (Flat.L2.append (Flat.L2.pure (a := [Value.int .i64 a1_0]) (by kernel_rfl)) (Flat.L2.append (Flat.L2.pure (a := [Value.int .i64 a1_1]) (by kernel_rfl)) (Flat.L2.append (Flat.L2.pure (a := [Value.int .i64 a1_2]) (by kernel_rfl)) (Flat.L2.append (Flat.L2.pure (a := Flat.Zs a1_3) (by kernel_rfl)) (Flat.L2.append (Flat.L2.cell (hv1_4)) (Flat.L2.append (Flat.L2.pure (a := Flat.Zr a1_5) (by kernel_rfl)) Flat.L2.nil))))))) Flat.L2.nil)) (Flat.Znq (⟨a0_0, a0_1, x0_2, x0_3⟩ : Flat.Kept) x0_2.length c0_2 x0_3.length c0_3 rfl rfl l0_2 l0_3 (by omega) (by omega) (⟨a1_0, a1_1, a1_2, a1_3, x1_4, a1_5⟩ : Flat.Rec) x1_4.length c1_4 rfl l1_4 (by omega))
theorem keepRight_said : Rows.KeepRightSaid :=
 OpenClaim.holds_of_wide 5 Try.f5 rfl rfl rfl rfl rfl rfl rfl ⟨rfl, rfl, rfl, rfl, rfl⟩ rfl rfl rfl rfl rfl (by kernel_rfl) Try.func5 (by kernel_rfl)
  (of_decide_eq_true (by kernel_rfl)) (by unfold Func.isWrapper; first | (rw [if_pos (by decide +kernel)]; kernel_rfl) | (rw [if_neg (by decide +kernel)]; exact ⟨rfl, rfl⟩))
  (fun os started H enc _ => keepRight_lifted os started H enc)
#print axioms keepRight_said
end Go.Proofs.Ytoafdomlefoenaa
