/- TreeRoots, TreeIncludes, TreeGoes walked; the tables. -/
import Derived.Test.YtajjalickpkkkaaDoorRef
import Derived.Test.YtajjalickpkkkaaDoorTree
section
set_option linter.unusedVariables false
set_option linter.unusedSimpArgs false
namespace Go.Flat
open Go.Proofs
variable {G : Glob}
theorem Own_ok' (ds : List D) (c n : Nat) (hn : ds.length = n) (hb : n ≤ 1000000) : CallL Tryd.prog G 10 [slv 0 0 n c] [dsR ds] (slv 1 0 n n) [dsR ds, dsB ds] := by
  subst hn; exact Own_ok ds c hb
theorem Digests_eq (ds : List D) (n c c' : Nat) (hn : ds.length = n) (hb : n ≤ 1000000) : CallL Tryd.prog G 14 [slv 0 0 n c, slv 1 0 n c'] [dsR ds, dsR ds] (.bool true) [dsR ds, dsR ds] := by
  subst hn
  have h := Digests_ok (G := G) ds ds c c' hb hb
  rw [sameDs_refl] at h; exact h
theorem Digests_nil : CallL Tryd.prog G 14 [nilS, nilS] [] (.bool true) [] := by
  refine walk (fn := Tryd.f14) (nt := 26) rfl rfl rfl rfl ?_
  repeat (first
    | ((with_reducible apply r_move); rfl; rfl; (exact (rfl : _ = Value.slice _ _ _)))
    | ((with_reducible apply r_assign); rfl; rfl; (first
    | exact (rfl : _ = Value.int _ _)
    | exact (rfl : _ = Value.bool _)))
    | ((with_reducible apply r_bin); rfl; rfl; (exact (rfl : _ = Value.int _ _)); (exact (rfl : _ = Value.int _ _)); (with_reducible exact neq_f (by omega)))
    | ((with_reducible apply r_len); rfl; rfl; (exact (rfl : _ = Value.slice _ _ _)); (exact (rfl : _ = some (Value.int _ _))))
    | with_reducible refine r_doneN ?_
    | with_reducible refine c_reg ?_
    | with_reducible refine c_seq ?_
    | with_reducible refine c_block ?_
    | with_reducible refine c_skip ?_
    | with_reducible refine x_then ?_
    | ((with_reducible apply c_false); rfl))
  refine c_loopN (fun i : Nat => [nilS, nilS, dead, dead, dead, .int .i64 (0 : Nat)]) (fun _ => []) (fun _ => True) (fun _ => 0) 0 trivial ?_ ?_
  · refine weak_to (n := 0) rfl ?_ rfl rfl
    repeat (first | exact trivial | refine ⟨.inl rfl, ?_⟩ | refine ⟨.inr ⟨rfl, rfl⟩, ?_⟩)
  · intro i _
    repeat (first
      | ((with_reducible apply r_move); rfl; rfl; (first
      | exact (rfl : _ = Value.int _ _)
      | exact (rfl : _ = Value.slice _ _ _)))
      | ((with_reducible apply r_assign); rfl; rfl; (exact (rfl : _ = Value.bool _)))
      | ((with_reducible apply r_bin); rfl; rfl; (exact (rfl : _ = Value.int _ _)); (exact (rfl : _ = Value.int _ _)); (with_reducible exact lss_f (by omega)))
      | ((with_reducible apply r_len); rfl; rfl; (exact (rfl : _ = Value.slice _ _ _)); (exact (rfl : _ = some (Value.int _ _))))
      | with_reducible refine r_doneN ?_
      | with_reducible refine c_reg ?_
      | with_reducible refine c_seq ?_
      | with_reducible refine c_exit ?_
      | with_reducible refine c_ret ?_
      | with_reducible refine x_then ?_
      | with_reducible refine x_thenE ?_
      | with_reducible refine x_leaveE ?_
      | ((with_reducible apply c_false); rfl)
      | ((with_reducible apply x_block); rfl))
    refine x_end ?_
    exact end_pv (v := .bool true) rfl rfl rfl
end Go.Flat
end
section
namespace Go.Proofs.YtajjalickpkkkaaDoor
open Go.ChangeShapes Go.WideShapes Go.ChangeAt Go.RowKit
set_option linter.unusedVariables false
noncomputable def G2 : Flat.Glob := fun g => if g = 0 then some (Flat.rowE Flat.w32 64 kk) else G0 g
theorem h2G : G2 1 = some (Flat.rowE Flat.w32 64 kk) := rfl
theorem h2G1 : G2 3 = some (Flat.rowE Flat.u8N 64 Flat.dbF) := rfl
theorem h2G2 : G2 0 = some (Flat.rowE Flat.w32 64 kk) := rfl
/-- The tables that a walk reads, where the row's list is met: the reference's table among them. -/
theorem hrel_of_laid2 {W : World} {l : List (String × DataW Unit)} (hp : (l.all fun x => x.2.handleName?.isNone) = true) (h : laidMetH Tryd.prog l W)
    (h3 : ("estreat/sha.table", Rows.laid_estreat_sha_table) ∈ l) (h1 : ("math/bits.deBruijn64tab", Rows.laid_math_bits_deBruijn64tab) ∈ l) (h2 : ("estreat/estreatref02.consts", Rows.laid_estreat_estreatref02_consts) ∈ l) : Flat.HRel G2 (fun _ => none) [] W := by
  have h0 := hrel_of_laid hp h h3 h1
  refine Flat.HRel.plain fun g cs hg => ?_
  unfold G2 at hg
  split at hg
  · rename_i e
    subst e
    injection hg with hg
    subst hg
    have r := Flat.laid_reads h hp h2
    rw [show (Rows.laid_estreat_estreatref02_consts : DataW Unit) = Lib.tabData .u32 kz from by kernel_rfl] at r
    exact r.tab (g := 0) (t := 85) (e := 65) (c := 64) (by kernel_rfl) (by kernel_rfl) (by kernel_rfl) (by kernel_rfl) (by kernel_rfl) (by kernel_rfl) (by decide +kernel) (by kernel_rfl)
  · exact h0.glob g cs hg
end Go.Proofs.YtajjalickpkkkaaDoor
end
