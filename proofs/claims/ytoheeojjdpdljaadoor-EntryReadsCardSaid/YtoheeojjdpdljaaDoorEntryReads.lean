/- EntryReads: the law's card. -/
import Derived.Test.YtoheeojjdpdljaaDoorXD
import Derived.Test.YtoheeojjdpdljaaDoorD5
import Derived.Test.YtoheeojjdpdljaaDoorFlatG
set_option linter.unusedVariables false
set_option linter.unusedSimpArgs false
namespace Go.Proofs.YtoheeojjdpdljaaDoor
open Go.ChangeShapes Go.WideShapes Go.ChangeAt Go.RowKit

set_option maxRecDepth 100000 in
theorem entryReads_lifted (os : Os) (started : os.Started) (H : Type) (enc : TypeId × Value → H) :
    ReturnsInHanded {} Tryd.checked os 5 .any (fun w args => (Rows.entryReadsSpec.pre enc Tryd.prog Tryd.f5 Rows.entryReadsRow.domain false w args ∧ laidMetH Tryd.prog Rows.entryReadsRow.laid w) ∧ sizedMet enc Tryd.prog Tryd.f5 (OpenSpec.ofChange Rows.entryReadsSpec) false w args)
      (Rows.entryReadsSpec.post enc Tryd.prog Tryd.f5 false true false false) := by
  refine returnsInHanded_of_change_and (C := Tryd.checked) (X := fun w _ => laidMetH Tryd.prog Rows.entryReadsRow.laid w) (fun _ _ _ hh h => h.of_heap hh) own started (by kernel_rfl) Tryd.func5
    (ChangeSpec.witness_shaped (enc := enc) (C := Tryd.checked) (os := os) (X := fun w _ => laidMetH Tryd.prog Rows.entryReadsRow.laid w) false (World.laidAll Tryd.prog os Rows.entryReadsRow.laid) #[.slice none 0 0] 8 (World.laidAll_os _ _ _)
      (World.shaped_of_ZipB (by kernel_rfl) (by kernel_rfl)) (by kernel_rfl) (by kernel_rfl) (by kernel_rfl)
      (by rw [MakeChecks.laidMetH_plain _ _ _ (by kernel_rfl)]; exact laidMet_laidAll _ (by kernel_rfl) (by kernel_rfl))) ?_
  intro W base args ds gs before hval0 hW hc _ hL _
  obtain ⟨L, rfl⟩ : ∃ L : List Value, args = L.toArray := ⟨args.toList, by simp⟩
  have hval : ∀ (j : Nat) t v, Tryd.f5.params[j]? = some t → L.toArray[j]? = some v → Value.okWide Tryd.prog W .any base t v := hval0
  have hW' := hW
  obtain ⟨p, q, hA0, hV, _, _, _⟩ := hW'
  have hA : DataW.TrodAll enc Tryd.prog W 0 (fun _ => true) true Tryd.f5.params.toList L ds p := hA0
  rw [show Tryd.f5.params = #[33] from rfl] at hA hval
  have hB : DataW.TrodAll enc Tryd.prog W 0 (fun _ => true) true [33] L ds p := hA
  obtain ⟨v0, L0, d0, D0, p0, q0, rfl, rfl, rfl, h0, hB0⟩ := trodAll_cons hB
  obtain ⟨rfl, rfl, rfl⟩ := trodAll_nil hB0
  have hrel0 := hrel_of_laid (by kernel_rfl) hL (by simp [Rows.entryReadsRow])
  have hro0 : ∀ (b : Nat) (r : Flat.Reg), (fun _ => none : Flat.MapM) b = some r → r.wr = false := fun _ _ h => by cases h
  obtain ⟨x0, c0, m0, l0, u0, ok0, hrel1, hro1, hext0, hv0⟩ := hrel0.addRw hro0 Flat.cU8 (Flat.Zf7.u8 (P := Tryd.prog) (t := 5) (by kernel_rfl)) (by kernel_rfl) (by kernel_rfl) (fun _ => rfl) (hval 0 33 v0 rfl rfl) h0
  exact Flat.Zx8 (argsL := [Flat.slv 0 0 x0.length c0]) hW rfl rfl rfl (by kernel_rfl : Tryd.prog.underlying 4 = some .bool) (by kernel_rfl) (by kernel_rfl) hro1 hrel1 (Flat.L2.cons (hv0) Flat.L2.nil) (Flat.Zp0 kk hG x0 c0 l0 u0)
theorem entryReads_said : Rows.EntryReadsSaid :=
 OpenClaim.holds_of_wide 5 Tryd.f5 rfl rfl rfl rfl rfl rfl rfl ⟨rfl, rfl, rfl, rfl, rfl⟩ rfl rfl rfl rfl rfl (by kernel_rfl) Tryd.func5 (by kernel_rfl)
  (of_decide_eq_true (by kernel_rfl)) (by unfold Func.isWrapper; first | (rw [if_pos (by decide +kernel)]; kernel_rfl) | (rw [if_neg (by decide +kernel)]; exact ⟨rfl, rfl⟩))
  (fun os started H enc _ => entryReads_lifted os started H enc)
theorem entryReads_holds : Rows.EntryReadsCardSaid :=
  Claim7.holds_tied_plain_at .later [] [.data] true (true, "deb164fcd4150e026f3615f56d4010e1f6f7a192805e2f764b80ed29cd41c327") false entryReads_said (fun _ h => by cases h) (by kernel_rfl) (fun _ h => by cases h) entryReads_row_tie rfl ⟨rfl, rfl⟩ (by kernel_rfl) rfl
    (fun f fn hf hfn => by
      obtain rfl : f = 5 := Option.some.inj ((show Tryd.prog.funcNamed "estreat/estreatlaw08.EntryReads" = some 5 by kernel_rfl).symm.trans hf) |>.symm
      obtain rfl : fn = Tryd.f5 := (Option.some.inj (Tryd.func5.symm.trans hfn)).symm
      exact ⟨by kernel_rfl, fun j t ht => by
        rw [show Tryd.f5.params = #[33] from rfl] at ht
        have hm : t ∈ [33] := by simpa using Array.mem_of_getElem? ht
        have hall : ([33].all fun u => !Tryd.prog.wantsStandIn u) = true := by kernel_rfl
        exact (show Tryd.prog.wantsStandIn t = false by simpa using List.all_eq_true.1 hall t hm)⟩)
    (by kernel_rfl)
#print axioms entryReads_holds
end Go.Proofs.YtoheeojjdpdljaaDoor
