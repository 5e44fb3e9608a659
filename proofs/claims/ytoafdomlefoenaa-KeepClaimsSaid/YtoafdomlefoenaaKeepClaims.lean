/- KeepClaims: the law's card. -/
import Derived.Test.YtoafdomlefoenaaFlatG
import Derived.Test.YtoafdomlefoenaaN12
import Derived.Test.YtoafdomlefoenaaN1
set_option linter.unusedVariables false
set_option linter.unusedSimpArgs false
namespace Go.Proofs.Ytoafdomlefoenaa
open Go.ChangeShapes Go.WideShapes Go.ChangeAt Go.RowKit

set_option maxRecDepth 100000 in
theorem keepClaims_lifted (os : Os) (started : os.Started) (H : Type) (enc : TypeId × Value → H) :
    ReturnsInHanded {} Try.checked os 6 .any (Rows.keepClaimsSpec.pre6 enc Try.prog Try.f6 Rows.keepClaimsRow.domain false)
      (Rows.keepClaimsSpec.post enc Try.prog Try.f6 false true false false) := by
  refine returnsInHanded_of_change (C := Try.checked) own started (by kernel_rfl) Try.func6
    (by
      obtain ⟨w, tape, i, h1, h2, h3, h4, ⟨⟨hp, _⟩, hs⟩, h5⟩ := ChangeSpec.witness_shaped (f := 6) (fn := Try.f6) (s := Rows.keepClaimsSpec) (conds := Rows.keepClaimsRow.domain) (apart := false) (enc := enc) (C := Try.checked) (os := os) (X := fun _ _ => True) false (World.laidAll Try.prog os []) #[.agg #[.int .i64 0, .int .i64 0, .slice none 0 0, .slice none 0 0], .agg #[.int .i64 0, .int .i64 0, .int .i64 0, .int .i64 0, .int .u8 0, .int .u8 0, .int .u8 0, .int .u8 0, .int .u8 0, .int .u8 0, .int .u8 0, .int .u8 0, .int .u8 0, .int .u8 0, .int .u8 0, .int .u8 0, .int .u8 0, .int .u8 0, .int .u8 0, .int .u8 0, .int .u8 0, .int .u8 0, .int .u8 0, .int .u8 0, .int .u8 0, .int .u8 0, .int .u8 0, .int .u8 0, .int .u8 0, .int .u8 0, .int .u8 0, .int .u8 0, .int .u8 0, .int .u8 0, .int .u8 0, .int .u8 0], .agg #[.int .i64 0, .int .i64 0, .int .i64 0, .int .i64 0, .int .u8 0, .int .u8 0, .int .u8 0, .int .u8 0, .int .u8 0, .int .u8 0, .int .u8 0, .int .u8 0, .int .u8 0, .int .u8 0, .int .u8 0, .int .u8 0, .int .u8 0, .int .u8 0, .int .u8 0, .int .u8 0, .int .u8 0, .int .u8 0, .int .u8 0, .int .u8 0, .int .u8 0, .int .u8 0, .int .u8 0, .int .u8 0, .int .u8 0, .int .u8 0, .int .u8 0, .int .u8 0, .int .u8 0, .int .u8 0, .int .u8 0, .int .u8 0]] 8 (World.laidAll_os _ _ _)
        (World.shaped_of_ZipB (by kernel_rfl) (by kernel_rfl)) (by kernel_rfl) (by kernel_rfl) (by kernel_rfl) trivial
      exact ⟨w, tape, i, h1, h2, h3, h4, ⟨hp, hs⟩, h5⟩) ?_
  intro W base args ds gs before hval0 hW hc _
  obtain ⟨L, rfl⟩ : ∃ L : List Value, args = L.toArray := ⟨args.toList, by simp⟩
  have hval : ∀ (j : Nat) t v, Try.f6.params[j]? = some t → L.toArray[j]? = some v → Value.okWide Try.prog W .any base t v := hval0
  have hW' := hW
  obtain ⟨p, q, hA0, hV, _, _, _⟩ := hW'
  have hA : DataW.TrodAll enc Try.prog W 0 (fun _ => true) true Try.f6.params.toList L ds p := hA0
  rw [show Try.f6.params = #[25, 36, 36] from rfl] at hA hval
  have hB : DataW.TrodAll enc Try.prog W 0 (fun _ => true) true [25, 36, 36] L ds p := hA
  obtain ⟨v0, L0, d0, D0, p0, q0, rfl, rfl, rfl, h0, hB0⟩ := trodAll_cons hB
  obtain ⟨v1, L1, d1, D1, p1, q1, rfl, rfl, rfl, h1, hB1⟩ := trodAll_cons hB0
  obtain ⟨v2, L2, d2, D2, p2, q2, rfl, rfl, rfl, h2, hB2⟩ := trodAll_cons hB1
  obtain ⟨rfl, rfl, rfl⟩ := trodAll_nil hB2
  have hrel0 := hrel0 (W := W)
  have hro0 : ∀ (b : Nat) (r : Flat.Reg), (fun _ => none : Flat.MapM) b = some r → r.wr = false := fun _ _ h => by cases h
  obtain ⟨cs0, rfl⟩ := Flat.Zq6 (t := 25) ⟨_, rfl⟩ (hval 0 25 v0 rfl rfl)
  obtain ⟨fu0, hf0⟩ := h0
  obtain ⟨xs0, nn0, _, _, hl0, hxl0, hel0⟩ := DataW.trod_struct (P := Try.prog) (t := 25) (fs := _) (cs := cs0) rfl hf0
  have hl'0 : cs0.length = 4 := hl0.trans (by kernel_rfl)
  obtain ⟨a0_0, e0_0, b0_0⟩ := Flat.Zao.at_ (t := 3) (off := 0) (k := 1) (Flat.Zao.int (by kernel_rfl : Try.prog.underlying 3 = some (.int .i64))) (hel0 0 _ rfl) (by rw [hxl0]; decide) rfl (by kernel_rfl) rfl
  have q0_0 : cs0.drop 0 = [Value.int .i64 a0_0] ++ cs0.drop 1 := by rw [Flat.Zaz 0 1, e0_0]
  obtain ⟨a0_1, e0_1, b0_1⟩ := Flat.Zao.at_ (t := 3) (off := 1) (k := 1) (Flat.Zao.int (by kernel_rfl : Try.prog.underlying 3 = some (.int .i64))) (hel0 1 _ rfl) (by rw [hxl0]; decide) rfl (by kernel_rfl) rfl
  have q0_1 : cs0.drop 1 = [Value.int .i64 a0_1] ++ cs0.drop 2 := by rw [Flat.Zaz 1 1, e0_1]
  obtain ⟨v0_2, x0_2, c0_2, m0_2, e0_2, l0_2, u0_2, ok0_2, hrel0_2, hro0_2, hext0_2, hv0_2⟩ := hrel0.addAt (off := 2) hro0 Flat.Zk (Flat.Zq8) (by kernel_rfl : Try.prog.underlying 22 = some (.slice 40)) (by kernel_rfl) (fun _ => rfl) (hel0 2 _ rfl) (by rw [hxl0]; decide) rfl (by kernel_rfl) rfl
  have q0_2 : cs0.drop 2 = [v0_2] ++ cs0.drop 3 := by rw [Flat.Zaz 2 1, e0_2]
  obtain ⟨v0_3, x0_3, c0_3, m0_3, e0_3, l0_3, u0_3, ok0_3, hrel0_3, hro0_3, hext0_3, hv0_3⟩ := hrel0_2.addAt (off := 3) hro0_2 Flat.Zh (Flat.Zge) (by kernel_rfl : Try.prog.underlying 23 = some (.slice 36)) (by kernel_rfl) (fun _ => rfl) (hel0 3 _ rfl) (by rw [hxl0]; decide) rfl (by kernel_rfl) rfl
  have q0_3 : cs0.drop 3 = [v0_3] ++ cs0.drop 4 := by rw [Flat.Zaz 3 1, e0_3]
  have qe0 : cs0.drop 4 = [] := List.drop_of_length_le (by omega)
  rw [List.drop_zero] at q0_0
  have hcs0 := q0_0
  rw [q0_1, q0_2, q0_3, qe0] at hcs0
  obtain ⟨x1, rfl, b1⟩ := Flat.Zao.val (Flat.Zge) (.inl ⟨_, rfl⟩) (hval 1 36 v1 rfl rfl) h1
  obtain ⟨x2, rfl, b2⟩ := Flat.Zao.val (Flat.Zge) (.inl ⟨_, rfl⟩) (hval 2 36 v2 rfl rfl) h2
  exact Flat.Zto (argsL := [Flat.mxV ([Value.int .i64 a0_0] ++ ([Value.int .i64 a0_1] ++ ([Flat.slv 0 0 x0_2.length c0_2] ++ ([Flat.slv 1 0 x0_3.length c0_3] ++ ([] : List Value))))), Flat.Zv x1, Flat.Zv x2]) hW rfl rfl rfl (by kernel_rfl : Try.prog.underlying 4 = some .bool) (by kernel_rfl) (by kernel_rfl) hro0_3 hrel0_3 (Flat.L2.cons (by rw [hcs0]; exact Flat.VR.mx (Flat.L2.append (Flat.L2.pure (a := [Value.int .i64 a0_0]) (by kernel_rfl)) (Flat.L2.append (Flat.L2.pure (a := [Value.int .i64 a0_1]) (by kernel_rfl)) (Flat.L2.append (Flat.L2.cell ((hv0_2).mono hext0_3)) (Flat.L2.append (Flat.L2.cell (hv0_3)) Flat.L2.nil))))) (Flat.L2.cons (Flat.VR.of_pure (Flat.Zl0 _)) (Flat.L2.cons (Flat.VR.of_pure (Flat.Zl0 _)) Flat.L2.nil))) (Flat.Zml (⟨a0_0, a0_1, x0_2, x0_3⟩ : Flat.Kept) x0_2.length c0_2 x0_3.length c0_3 rfl rfl l0_2 l0_3 (by omega) (by omega) x1 x2)
theorem keepClaims_said : Rows.KeepClaimsSaid :=
 OpenClaim.holds_of_wide 6 Try.f6 rfl rfl rfl rfl rfl rfl rfl ⟨rfl, rfl, rfl, rfl, rfl⟩ rfl rfl rfl rfl rfl (by kernel_rfl) Try.func6 (by kernel_rfl)
  (of_decide_eq_true (by kernel_rfl)) (by unfold Func.isWrapper; first | (rw [if_pos (by decide +kernel)]; kernel_rfl) | (rw [if_neg (by decide +kernel)]; exact ⟨rfl, rfl⟩))
  (fun os started H enc _ => keepClaims_lifted os started H enc)
#print axioms keepClaims_said
end Go.Proofs.Ytoafdomlefoenaa
