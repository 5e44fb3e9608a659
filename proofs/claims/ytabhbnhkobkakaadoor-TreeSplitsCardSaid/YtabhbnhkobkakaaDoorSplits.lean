/- TreeSplits: for every number the law returns true, and its argument stays; the tables are tied to the program's text. -/
import Derived.Test.YtabhbnhkobkakaaDoorSha
import Derived.Test.YtabhbnhkobkakaaDoorFlatC
import Derived.Test.YtabhbnhkobkakaaDoorTie
import Derived.Test.YtabhbnhkobkakaaDoorCards
import Derived.ProofKit
import Derived.OpenShut
import Derived.LaidMore
import Derived.Lay
import Derived.SevenTiedAt
section
set_option linter.unusedVariables false
namespace Go.Flat
open Go.Proofs
variable {G : Glob}
theorem and_pow_dec : ∀ j : Fin 63, BitVec.ofInt 64 (2 ^ j.val) &&& BitVec.ofInt 64 (2 ^ j.val - 1) = 0#64 := by decide +kernel
theorem and_pow {P : Program} {t : TypeId} {u v : Operand} {k : Int} {j : Nat} (hj : j ≤ 62) (hk : k = 2 ^ j) : binD P .and t u v (.int .i64 k) (.int .i64 (k - 1)) = some (.int .i64 0) := bin_int (by
  subst hk
  have := and_pow_dec ⟨j, by omega⟩
  dsimp only at this
  simp only [binOp, ne_eq, not_true_eq_false, if_false, Op.intBits, evalPure_pure]
  rw [show BitVec.ofInt IntKind.i64.bits (2 ^ j) &&& BitVec.ofInt IntKind.i64.bits (2 ^ j - 1) = 0#64 from this]
  rfl) rfl
theorem splitF_pow {n : Int} (h : 2 ≤ n) (hn : n ≤ 9223372036854775807) : ∃ j : Nat, j ≤ 62 ∧ splitF n = 2 ^ j ∧ 1 ≤ splitF n ∧ splitF n < n ∧ n - splitF n ≤ splitF n := by
  have h0 : (n - 1).toNat ≠ 0 := by omega
  refine ⟨bitLen (n - 1).toNat - 1, ?_, ?_, ?_⟩
  · have : bitLen (n - 1).toNat ≤ 63 := bitLen_le (by omega)
    omega
  · unfold splitF; rw [if_neg (by omega)]
  · have e : splitF n = ((2 ^ (n - 1).toNat.log2 : Nat) : Int) := by
      unfold splitF bitLen
      rw [if_neg (by omega), if_neg h0]
      simp
    have h1 := Nat.log2_self_le h0
    have h2 : (n - 1).toNat < 2 ^ ((n - 1).toNat.log2 + 1) := Nat.lt_log2_self
    rw [Nat.pow_succ] at h2
    have h3 : 0 < 2 ^ (n - 1).toNat.log2 := Nat.pow_pos (by decide)
    rw [e]
    omega
set_option maxHeartbeats 4000000 in
theorem TreeSplits_ok (kk : Nat → BitVec 32) (hG : G 3 = some (rowE w32 64 kk)) (hG1 : G 1 = some (rowE u8N 64 dbF)) (n : Int) (hl : -9223372036854775808 ≤ n) (h : n ≤ 9223372036854775807) :
    CallL Tryd.prog G 8 [.int .i64 n] [] (.bool true) [] := by
  refine walk (fn := Tryd.f8) (nt := 37) rfl rfl rfl rfl ?_
  have hS := Split_ok (G := G) n h
  by_cases h2 : n < 2
  · rw [show splitF n = 0 from by unfold splitF; rw [if_pos h2]] at hS
    repeat (first
      | ((with_reducible apply r_move); rfl; rfl; (first
      | exact (rfl : _ = Value.int _ _)
      | exact (rfl : _ = Value.bool _)))
      | ((with_reducible apply r_assign); rfl; rfl; (first
      | exact (rfl : _ = Value.int _ _)
      | exact (rfl : _ = Value.bool _)))
      | ((with_reducible apply r_bin); rfl; rfl; (exact (rfl : _ = Value.int _ _)); (exact (rfl : _ = Value.int _ _)); (first
      | with_reducible exact lss_t (by omega)
      | with_reducible exact eql_t (by omega)))
      | ((with_reducible apply r_pick); rfl; rfl; (exact (rfl : _ = some (Value.bool _))))
      | ((with_reducible apply r_callP (hS)); rfl; rfl; rfl; rfl; rfl; (exact (rfl : _ = Value.int _ _)))
      | ((with_reducible apply r_callP (three_law kk hG hG1)); rfl; rfl; rfl; rfl; rfl; (exact (rfl : _ = Value.bool _)))
      | with_reducible refine r_doneN ?_
      | with_reducible refine c_reg ?_
      | with_reducible refine c_seq ?_
      | with_reducible refine c_ret ?_
      | with_reducible refine x_then ?_
      | with_reducible refine x_thenR ?_
      | ((with_reducible apply c_true); rfl))
    refine x_end ?_
    exact end_pv (v := .bool true) rfl rfl rfl
  · obtain ⟨j, hj, hk, k1, k2, k3⟩ := splitF_pow (n := n) (by omega) h
    generalize splitF n = k at *
    repeat (first
      | ((with_reducible apply r_bin); rfl; rfl; exact (rfl : _ = Value.int _ _); exact (rfl : _ = Value.int _ _); exact and_pow hj hk)
      | ((with_reducible apply r_move); rfl; rfl; (first
      | exact (rfl : _ = Value.int _ _)
      | exact (rfl : _ = Value.bool _)))
      | ((with_reducible apply r_assign); rfl; rfl; (first
      | exact (rfl : _ = Value.int _ _)
      | exact (rfl : _ = Value.bool _)))
      | ((with_reducible apply r_bin); rfl; rfl; (exact (rfl : _ = Value.int _ _)); (exact (rfl : _ = Value.int _ _)); (first
      | with_reducible exact lss_t (by omega)
      | with_reducible exact lss_f (by omega)
      | with_reducible exact geq_t (by omega)
      | with_reducible exact eql_t (by omega)
      | with_reducible exact bin_sub rfl (by omega) (by omega)))
      | ((with_reducible apply r_pick); rfl; rfl; (exact (rfl : _ = some (Value.bool _))))
      | ((with_reducible apply r_callP (hS)); rfl; rfl; rfl; rfl; rfl; (exact (rfl : _ = Value.int _ _)))
      | ((with_reducible apply r_callP (three_law kk hG hG1)); rfl; rfl; rfl; rfl; rfl; (exact (rfl : _ = Value.bool _)))
      | with_reducible refine r_doneN ?_
      | with_reducible refine c_reg ?_
      | with_reducible refine c_seq ?_
      | with_reducible refine c_skip ?_
      | with_reducible refine c_ret ?_
      | with_reducible refine x_then ?_
      | ((with_reducible apply c_false); rfl))
    refine x_end ?_
    exact end_pv (v := .bool true) rfl rfl rfl
end Go.Flat
end
section
namespace Go.Proofs.YtabhbnhkobkakaaDoor
open Go.ChangeShapes Go.WideShapes Go.ChangeAt Go.RowKit
set_option linter.unusedVariables false

def ints (l : List (DataW Unit)) : List Int := l.map fun | .lit (.int _ z) => z | _ => 0
def parts : DataW Unit → List (DataW Unit) | .agg l => l | _ => []
noncomputable def kz : List Int := ints (parts Rows.laid_estreat_sha_table)
noncomputable def bz : List Int := ints (parts Rows.laid_math_bits_deBruijn64tab)
noncomputable def kk : Nat → BitVec 32 := Flat.tabW 32 kz
noncomputable def G0 : Flat.Glob := fun g => if g = 3 then some (Flat.rowE Flat.w32 64 kk) else if g = 1 then some (Flat.rowE Flat.u8N 64 Flat.dbF) else none
theorem hG : G0 3 = some (Flat.rowE Flat.w32 64 kk) := rfl
theorem hG1 : G0 1 = some (Flat.rowE Flat.u8N 64 Flat.dbF) := rfl
theorem own : ownKnob Tryd.prog.godebug = none := by kernel_rfl
/-- The tables that a walk reads, where the row's list is met. -/
theorem hrel_of_laid {W : World} {l : List (String × DataW Unit)} (hp : (l.all fun x => x.2.handleName?.isNone) = true) (h : laidMetH Tryd.prog l W)
    (h3 : ("estreat/sha.table", Rows.laid_estreat_sha_table) ∈ l) (h1 : ("math/bits.deBruijn64tab", Rows.laid_math_bits_deBruijn64tab) ∈ l) : Flat.HRel G0 (fun _ => none) [] W := by
  refine Flat.HRel.plain fun g cs hg => ?_
  unfold G0 at hg
  split at hg
  · rename_i e
    subst e
    injection hg with hg
    subst hg
    have r := Flat.laid_reads h hp h3
    rw [show (Rows.laid_estreat_sha_table : DataW Unit) = Lib.tabData .u32 kz from by kernel_rfl] at r
    exact r.tab (g := 3) (t := 61) (e := 48) (c := 64) (by kernel_rfl) (by kernel_rfl) (by kernel_rfl) (by kernel_rfl) (by kernel_rfl) (by kernel_rfl) (by decide +kernel) (by kernel_rfl)
  · split at hg
    · rename_i e
      subst e
      injection hg with hg
      subst hg
      have r := Flat.laid_reads h hp h1
      rw [show (Rows.laid_math_bits_deBruijn64tab : DataW Unit) = Lib.tabData .u8 bz from by kernel_rfl] at r
      exact r.tab (g := 1) (t := 60) (e := 5) (c := 64) (by kernel_rfl) (by kernel_rfl) (by kernel_rfl) (by kernel_rfl) (by kernel_rfl) (by kernel_rfl) (by decide +kernel) (by kernel_rfl)
    · cases hg

theorem treeSplits_walk (n : Int) (hn : (Lit.int .i64 n).wf = true) (W : World) (h : Flat.HRel G0 (fun _ => none) [] W) :
    Calls Tryd.prog 8 #[.int .i64 n] W fun e w' => e = .returned (.bool true) ∧ ∃ m', Flat.Frame ⟨fun _ => none, W, []⟩ m' w' := by
  have hb : -9223372036854775808 ≤ n ∧ n ≤ 9223372036854775807 := by
    rw [Lit.wf, Bool.and_eq_true] at hn
    exact ⟨of_decide_eq_true hn.1, of_decide_eq_true hn.2⟩
  refine (Flat.TreeSplits_ok (G := G0) kk hG hG1 n hb.1 hb.2 (fun _ => none) W [.int .i64 n] h (Flat.L2.cons rfl Flat.L2.nil)).mono ?_
  rintro e w' ⟨v', m', rfl, h1, h2, h3⟩
  have : v' = .bool true := h2
  subst this
  exact ⟨rfl, m', h3⟩

set_option maxRecDepth 100000 in
theorem treeSplits_lifted (os : Os) (started : os.Started) (H : Type) (enc : TypeId × Value → H) :
    ReturnsInHanded {} Tryd.checked os 8 .any (fun w args => (Rows.treeSplitsSpec.pre enc Tryd.prog Tryd.f8 Rows.treeSplitsRow.domain false w args ∧ laidMetH Tryd.prog Rows.treeSplitsRow.laid w) ∧ sizedMet enc Tryd.prog Tryd.f8 (OpenSpec.ofChange Rows.treeSplitsSpec) false w args)
      (Rows.treeSplitsSpec.post enc Tryd.prog Tryd.f8 false true false false) := by
  refine returnsInHanded_of_change_and (C := Tryd.checked) (X := fun w _ => laidMetH Tryd.prog Rows.treeSplitsRow.laid w) (fun _ _ _ hh h => h.of_heap hh) own started (by kernel_rfl) Tryd.func8
    (ChangeSpec.witness_shaped (enc := enc) (C := Tryd.checked) (os := os) (X := fun w _ => laidMetH Tryd.prog Rows.treeSplitsRow.laid w) false (World.laidAll Tryd.prog os Rows.treeSplitsRow.laid) #[.int .i64 0] 8 (World.laidAll_os _ _ _)
      (World.shaped_of_ZipB (by kernel_rfl) (by kernel_rfl)) (by kernel_rfl) (by kernel_rfl) (by kernel_rfl)
      (by rw [MakeChecks.laidMetH_plain _ _ _ (by kernel_rfl)]; exact laidMet_laidAll _ (by kernel_rfl) (by kernel_rfl))) ?_
  intro W base args ds gs before hval0 hW hc _ hL _
  have hval : ∀ (j : Nat) t v, Tryd.f8.params[j]? = some t → args[j]? = some v → Value.okWide Tryd.prog W .any base t v := hval0
  have hW' := hW
  obtain ⟨p, q, hA0, hV, rfl, _, _⟩ := hW
  have hA : DataW.TrodAll enc Tryd.prog W 0 (fun _ => true) true Tryd.f8.params.toList args.toList ds p := hA0
  rw [Tryd.params8] at hA hval
  obtain ⟨v0, d0, rfl, rfl, h0⟩ := trodAll_one hA
  obtain ⟨rfl, rfl⟩ := trodVars_none hV
  obtain ⟨x, rfl, rfl, rfl, wx⟩ := open_int Tryd.underlying3 (hval 0 3 v0 rfl rfl) h0
  have hrel := hrel_of_laid (by kernel_rfl) hL (by simp [Rows.treeSplitsRow]) (by simp [Rows.treeSplitsRow])
  simp only [List.append_nil] at hW'
  refine (treeSplits_walk x wx W hrel).mono fun e W' ⟨he, m', hf⟩ => ?_
  subst he
  exact ⟨_, rfl, Flat.post_of_old (pa := []) (pv := []) hW' (fun _ _ _ => trodAll_mk1 (shut_bool Tryd.underlying4 _)) (fun sp _ => trodAll_mk1 (shut_int Tryd.underlying3 wx)) (fun _ _ => rfl) rfl (hf.kept (fun _ _ h => by cases h) _) (fun a ha => hf.frozen (fun _ _ h => by cases h) a ha) (ok_one (by kernel_rfl) rfl (okWide_bool_mk Tryd.underlying4 _))⟩

theorem treeSplits_said : Rows.TreeSplitsSaid :=
  OpenClaim.holds_of_wide 8 Tryd.f8 rfl rfl rfl rfl rfl rfl rfl ⟨rfl, rfl, rfl, rfl, rfl⟩ rfl rfl rfl rfl rfl (by kernel_rfl) Tryd.func8 (by kernel_rfl)
    (of_decide_eq_true (by kernel_rfl)) (by unfold Func.isWrapper; first | (rw [if_pos (by decide +kernel)]; kernel_rfl) | (rw [if_neg (by decide +kernel)]; exact ⟨rfl, rfl⟩))
    (fun os started H enc _ => treeSplits_lifted os started H enc)
theorem treeSplits_holds : Rows.TreeSplitsCardSaid :=
  Claim7.holds_tied_plain_at .later [] [.data, .data, .data] true (true, "b75c6d91873f64bda9656c4e5567a44aaef6adadaae2519fb6a4187272d27960") false treeSplits_said (fun _ h => by cases h) (by kernel_rfl) (fun _ h => by cases h) treeSplits_row_tie rfl ⟨rfl, rfl⟩ (by kernel_rfl) rfl
    (fun f fn hf hfn => by
      obtain rfl : f = 8 := Option.some.inj ((show Tryd.prog.funcNamed "estreat/estreatlaw03.TreeSplits" = some 8 by kernel_rfl).symm.trans hf) |>.symm
      obtain rfl : fn = Tryd.f8 := (Option.some.inj (Tryd.func8.symm.trans hfn)).symm
      exact ⟨by kernel_rfl, fun j t ht => by
        rw [Tryd.params8] at ht
        have hm : t ∈ [3] := by simpa using Array.mem_of_getElem? ht
        have hall : ([3].all fun u => !Tryd.prog.wantsStandIn u) = true := by kernel_rfl
        exact (show Tryd.prog.wantsStandIn t = false by simpa using List.all_eq_true.1 hall t hm)⟩)
    (by kernel_rfl)
#print axioms treeSplits_holds
end Go.Proofs.YtabhbnhkobkakaaDoor
end
