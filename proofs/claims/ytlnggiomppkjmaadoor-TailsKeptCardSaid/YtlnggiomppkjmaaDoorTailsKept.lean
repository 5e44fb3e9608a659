/- TailsKept: the law's card. -/
import Derived.Test.YtlnggiomppkjmaaDoorXD
import Derived.Test.YtlnggiomppkjmaaDoorA7
import Derived.Test.YtlnggiomppkjmaaDoorFlatL
set_option linter.unusedVariables false
set_option linter.unusedSimpArgs false
namespace Go.Proofs.YtlnggiomppkjmaaDoor
open Go.ChangeShapes Go.WideShapes Go.ChangeAt Go.RowKit

set_option maxRecDepth 100000 in
theorem tailsKept_lifted (os : Os) (started : os.Started) (H : Type) (enc : TypeId × Value → H) :
    ReturnsInHanded {} Tryd.checked os 7 .any (fun w args => (Rows.tailsKeptSpec.pre enc Tryd.prog Tryd.f7 Rows.tailsKeptRow.domain false w args ∧ laidMetH Tryd.prog Rows.tailsKeptRow.laid w) ∧ sizedMet enc Tryd.prog Tryd.f7 (OpenSpec.ofChange Rows.tailsKeptSpec) false w args)
      (Rows.tailsKeptSpec.post enc Tryd.prog Tryd.f7 false true false false) := by
  refine returnsInHanded_of_change_and (C := Tryd.checked) (X := fun w _ => laidMetH Tryd.prog Rows.tailsKeptRow.laid w) (fun _ _ _ hh h => h.of_heap hh) own started (by kernel_rfl) Tryd.func7
    (ChangeSpec.witness_shaped (enc := enc) (C := Tryd.checked) (os := os) (X := fun w _ => laidMetH Tryd.prog Rows.tailsKeptRow.laid w) false (World.laidAll Tryd.prog os Rows.tailsKeptRow.laid) #[.int .i64 0, .int .i64 0, .int .i64 0, .agg #[.int .i64 0, .int .i64 0, .int .i64 0, .slice none 0 0]] 8 (World.laidAll_os _ _ _)
      (World.shaped_of_ZipB (by kernel_rfl) (by kernel_rfl)) (by kernel_rfl) (by kernel_rfl) (by kernel_rfl)
      (by rw [MakeChecks.laidMetH_plain _ _ _ (by kernel_rfl)]; exact laidMet_laidAll _ (by kernel_rfl) (by kernel_rfl))) ?_
  intro W base args ds gs before hval0 hW hc _ hL _
  obtain ⟨L, rfl⟩ : ∃ L : List Value, args = L.toArray := ⟨args.toList, by simp⟩
  have hval : ∀ (j : Nat) t v, Tryd.f7.params[j]? = some t → L.toArray[j]? = some v → Value.okWide Tryd.prog W .any base t v := hval0
  have hW' := hW
  obtain ⟨p, q, hA0, hV, _, _, _⟩ := hW'
  have hA : DataW.TrodAll enc Tryd.prog W 0 (fun _ => true) true Tryd.f7.params.toList L ds p := hA0
  rw [show Tryd.f7.params = #[3, 3, 3, 26] from rfl] at hA hval
  have hB : DataW.TrodAll enc Tryd.prog W 0 (fun _ => true) true [3, 3, 3, 26] L ds p := hA
  obtain ⟨v0, L0, d0, D0, p0, q0, rfl, rfl, rfl, h0, hB0⟩ := trodAll_cons hB
  obtain ⟨v1, L1, d1, D1, p1, q1, rfl, rfl, rfl, h1, hB1⟩ := trodAll_cons hB0
  obtain ⟨v2, L2, d2, D2, p2, q2, rfl, rfl, rfl, h2, hB2⟩ := trodAll_cons hB1
  obtain ⟨v3, L3, d3, D3, p3, q3, rfl, rfl, rfl, h3, hB3⟩ := trodAll_cons hB2
  obtain ⟨rfl, rfl, rfl⟩ := trodAll_nil hB3
  have hrel0 := hrel_of_laid (by kernel_rfl) hL (by simp [Rows.tailsKeptRow]) (by simp [Rows.tailsKeptRow])
  have hro0 : ∀ (b : Nat) (r : Flat.Reg), (fun _ => none : Flat.MapM) b = some r → r.wr = false := fun _ _ h => by cases h
  obtain ⟨x0, rfl, b0⟩ := Flat.Zai.one (enc := fun z : Int => .int .i64 z) (Flat.Zai.int (by kernel_rfl : Tryd.prog.underlying 3 = some (.int .i64))) (.inr (.inr ⟨.i64, by kernel_rfl⟩)) (hval 0 3 v0 rfl rfl) h0
  obtain ⟨x1, rfl, b1⟩ := Flat.Zai.one (enc := fun z : Int => .int .i64 z) (Flat.Zai.int (by kernel_rfl : Tryd.prog.underlying 3 = some (.int .i64))) (.inr (.inr ⟨.i64, by kernel_rfl⟩)) (hval 1 3 v1 rfl rfl) h1
  obtain ⟨x2, rfl, b2⟩ := Flat.Zai.one (enc := fun z : Int => .int .i64 z) (Flat.Zai.int (by kernel_rfl : Tryd.prog.underlying 3 = some (.int .i64))) (.inr (.inr ⟨.i64, by kernel_rfl⟩)) (hval 2 3 v2 rfl rfl) h2
  obtain ⟨cs3, rfl⟩ := Flat.Zua (t := 26) ⟨_, rfl⟩ (hval 3 26 v3 rfl rfl)
  obtain ⟨fu3, hf3⟩ := h3
  obtain ⟨xs3, nn3, _, _, hl3, hxl3, hel3⟩ := DataW.trod_struct (P := Tryd.prog) (t := 26) (fs := _) (cs := cs3) rfl hf3
  have hl'3 : cs3.length = 4 := hl3.trans (by kernel_rfl)
  obtain ⟨a3_0, e3_0, b3_0⟩ := Flat.Zai.at_ (t := 3) (off := 0) (k := 1) (Flat.Zai.int (by kernel_rfl : Tryd.prog.underlying 3 = some (.int .i64))) (hel3 0 _ rfl) (by rw [hxl3]; decide) rfl (by kernel_rfl) rfl
  have q3_0 : cs3.drop 0 = [Value.int .i64 a3_0] ++ cs3.drop 1 := by rw [Flat.Zax 0 1, e3_0]
  obtain ⟨a3_1, e3_1, b3_1⟩ := Flat.Zai.at_ (t := 3) (off := 1) (k := 1) (Flat.Zai.int (by kernel_rfl : Tryd.prog.underlying 3 = some (.int .i64))) (hel3 1 _ rfl) (by rw [hxl3]; decide) rfl (by kernel_rfl) rfl
  have q3_1 : cs3.drop 1 = [Value.int .i64 a3_1] ++ cs3.drop 2 := by rw [Flat.Zax 1 1, e3_1]
  obtain ⟨a3_2, e3_2, b3_2⟩ := Flat.Zai.at_ (t := 3) (off := 2) (k := 1) (Flat.Zai.int (by kernel_rfl : Tryd.prog.underlying 3 = some (.int .i64))) (hel3 2 _ rfl) (by rw [hxl3]; decide) rfl (by kernel_rfl) rfl
  have q3_2 : cs3.drop 2 = [Value.int .i64 a3_2] ++ cs3.drop 3 := by rw [Flat.Zax 2 1, e3_2]
  obtain ⟨v3_3, x3_3, c3_3, m3_3, e3_3, l3_3, u3_3, ok3_3, hrel3_3, hro3_3, hext3_3, hv3_3⟩ := hrel0.addAt (off := 3) hro0 Flat.Zh (Flat.Zuc) (by kernel_rfl : Tryd.prog.underlying 24 = some (.slice 43)) (by kernel_rfl) (fun _ => rfl) (hel3 3 _ rfl) (by rw [hxl3]; decide) rfl (by kernel_rfl) rfl
  have q3_3 : cs3.drop 3 = [v3_3] ++ cs3.drop 4 := by rw [Flat.Zax 3 1, e3_3]
  have qe3 : cs3.drop 4 = [] := List.drop_of_length_le (by omega)
  rw [List.drop_zero] at q3_0
  have hcs3 := q3_0
  rw [q3_1, q3_2, q3_3, qe3] at hcs3
  exact Flat.Zw1 (argsL := [.int .i64 x0, .int .i64 x1, .int .i64 x2, Flat.mxV ([Value.int .i64 a3_0] ++ ([Value.int .i64 a3_1] ++ ([Value.int .i64 a3_2] ++ ([Flat.slv 0 0 x3_3.length c3_3] ++ ([] : List Value)))))]) hW rfl rfl rfl (by kernel_rfl : Tryd.prog.underlying 4 = some .bool) (by kernel_rfl) (by kernel_rfl) hro3_3 hrel3_3 (Flat.L2.cons (rfl) (Flat.L2.cons (rfl) (Flat.L2.cons (rfl) (Flat.L2.cons (by rw [hcs3]; exact Flat.VR.mx (Flat.L2.append (Flat.L2.pure (a := [Value.int .i64 a3_0]) (by kernel_rfl)) (Flat.L2.append (Flat.L2.pure (a := [Value.int .i64 a3_1]) (by kernel_rfl)) (Flat.L2.append (Flat.L2.pure (a := [Value.int .i64 a3_2]) (by kernel_rfl)) (Flat.L2.append (Flat.L2.cell (hv3_3)) Flat.L2.nil))))) Flat.L2.nil)))) (Flat.Zqe kk hG hG1 x0 x1 x2 (⟨a3_0, a3_1, a3_2, x3_3⟩ : Flat.TailT) x3_3.length c3_3 rfl l3_3 (by omega))
theorem tailsKept_said : Rows.TailsKeptSaid :=
 OpenClaim.holds_of_wide 7 Tryd.f7 rfl rfl rfl rfl rfl rfl rfl ⟨rfl, rfl, rfl, rfl, rfl⟩ rfl rfl rfl rfl rfl (by kernel_rfl) Tryd.func7 (by kernel_rfl)
  (of_decide_eq_true (by kernel_rfl)) (by unfold Func.isWrapper; first | (rw [if_pos (by decide +kernel)]; kernel_rfl) | (rw [if_neg (by decide +kernel)]; exact ⟨rfl, rfl⟩))
  (fun os started H enc _ => tailsKept_lifted os started H enc)
theorem tailsKept_holds : Rows.TailsKeptCardSaid :=
  Claim7.holds_tied_plain_at .later [] [.data, .data, .data] true (true, "4834214849311e90fc269828b69b58623582a31d1ac412131e0cdb1495178a7f") false tailsKept_said (fun _ h => by cases h) (by kernel_rfl) (fun _ h => by cases h) tailsKept_row_tie rfl ⟨rfl, rfl⟩ (by kernel_rfl) rfl
    (fun f fn hf hfn => by
      obtain rfl : f = 7 := Option.some.inj ((show Tryd.prog.funcNamed "estreat/estreatlaw16.TailsKept" = some 7 by kernel_rfl).symm.trans hf) |>.symm
      obtain rfl : fn = Tryd.f7 := (Option.some.inj (Tryd.func7.symm.trans hfn)).symm
      exact ⟨by kernel_rfl, fun j t ht => by
        rw [show Tryd.f7.params = #[3, 3, 3, 26] from rfl] at ht
        have hm : t ∈ [3, 3, 3, 26] := by simpa using Array.mem_of_getElem? ht
        have hall : ([3, 3, 3, 26].all fun u => !Tryd.prog.wantsStandIn u) = true := by kernel_rfl
        exact (show Tryd.prog.wantsStandIn t = false by simpa using List.all_eq_true.1 hall t hm)⟩)
    (by kernel_rfl)
#print axioms tailsKept_holds
end Go.Proofs.YtlnggiomppkjmaaDoor
