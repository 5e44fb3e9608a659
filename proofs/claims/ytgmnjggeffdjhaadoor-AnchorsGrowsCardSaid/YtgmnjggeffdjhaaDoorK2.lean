/- Walks and plain laws: what each theorem says, within the bounds that it names. -/
import Derived.Test.YtgmnjggeffdjhaaDoorLast
import Derived.Test.YtgmnjggeffdjhaaDoorRef
import Derived.Test.YtgmnjggeffdjhaaDoorK1
import Derived.Test.YtgmnjggeffdjhaaDoorFlatE
set_option linter.unusedVariables false
set_option linter.unusedSimpArgs false
set_option maxRecDepth 20000
namespace Go.Flat
open Go.Proofs
variable {G : Glob}
set_option maxHeartbeats 4000000 in
theorem last_ok (ds : List D) (n c : Nat) (hn : ds.length = n + 1) (hb : n ≤ 1000000) (hc : n + 1 ≤ c) :
    CallL Tryd.prog G 55 [slv 0 0 (n + 1) c] [dsR ds] (.tuple #[dgV (ds.getD n d0), slv 0 0 n c]) [dsR ds] := by
  refine walk (fn := Tryd.f55) (nt := 20) rfl rfl rfl rfl ?_
  refine c_hole 1 (H' := [dsR ds, hole]) rfl ?_
  have hR : (dsR ds).cells.length = ds.length * 32 := dsC_len ds
  have hx : ((n + 1 : Nat) : Int) - 1 = (n : Nat) := by omega
  have hat := dsC_atI ds n (by omega)
  generalize ds.getD n d0 = x at hat ⊢
  repeat (first
    | ((with_reducible apply r_load); rfl; rfl; exact (rfl : _ = Value.pointer (some ⟨0, _, _⟩)); exact loadA_agg (n := 32) rfl rfl (by omega) hat)
    | ((with_reducible apply r_slice); rfl; rfl; exact (rfl : _ = Value.slice (some ⟨_, _, _⟩) _ _); rfl; rfl; exact slice_hi (h := n) rfl rfl hx (by omega) rfl)
    | ((with_reducible apply r_idxS (j := n * 32)); rfl; rfl; exact (rfl : _ = Value.slice (some ⟨_, _, _⟩) _ _); (exact (rfl : _ = Value.int _ _)); (exact (rfl : _ = some (_, 32))); omega; omega; omega)
    | ((with_reducible apply r_move); rfl; rfl; (first
    | exact (rfl : _ = Value.int _ _)
    | exact (rfl : _ = Value.slice _ _ _)))
    | ((with_reducible apply r_assign); rfl; rfl; (first
    | exact (rfl : _ = Value.int _ _)
    | exact (rfl : _ = Value.slice _ _ _)))
    | ((with_reducible apply r_bin); rfl; rfl; (exact (rfl : _ = Value.int _ _)); (exact (rfl : _ = Value.int _ _)); (first
    | with_reducible exact eql_f (by omega)
    | with_reducible exact bin_sub rfl (by omega) (by omega)))
    | ((with_reducible apply r_len); rfl; rfl; (exact (rfl : _ = Value.slice _ _ _)); (exact (rfl : _ = some (Value.int _ _))))
    | ((with_reducible apply r_store); rfl; exact (rfl : _ = Value.pointer (some ⟨_, _, _⟩)); (exact (rfl : _ = Value.agg _)); (rfl); exact (rfl : _ = _ :: _))
    | ((with_reducible apply r_alloc (nid := 1)); rfl; rfl; rfl; exact (rfl : _ = _ :: _))
    | with_reducible refine r_doneN ?_
    | with_reducible refine c_reg ?_
    | with_reducible refine c_seq ?_
    | with_reducible refine c_skip ?_
    | with_reducible refine c_ret ?_
    | with_reducible refine x_then ?_
    | (with_reducible refine r_doneD (by kernel_rfl) ?_)
    | (with_reducible refine c_draw (by kernel_rfl) ?_)
    | ((with_reducible apply c_false); rfl))
  refine x_end ?_
  refine end_same (v := .tuple #[dgV x, slv 0 0 n c]) (by kernel_rfl) rfl rfl (by simp [keptB, dsR]) ?_
  exact ⟨argV_pure (pure_row fun _ => rfl) rfl, ⟨rfl, rfl, rfl, by omega, by omega⟩, trivial⟩
set_option maxHeartbeats 4000000 in
theorem last_pan (ds : List D) (c : Nat) (hn : ds.length = 0) : PanL Tryd.prog G 55 [slv 0 0 0 c] [dsR ds] := by
  refine pwalk (fn := Tryd.f55) (nt := 20) rfl rfl rfl rfl ?_
  refine c_hole 1 (H' := [dsR ds, hole]) rfl ?_
  iterate 15 (first
    | ((with_reducible apply r_move); rfl; rfl; (exact (rfl : _ = Value.slice _ _ _)))
    | ((with_reducible apply r_assign); rfl; rfl; (exact (rfl : _ = Value.slice _ _ _)))
    | ((with_reducible apply r_bin); rfl; rfl; (exact (rfl : _ = Value.int _ _)); (exact (rfl : _ = Value.int _ _)); (with_reducible exact eql_t (by omega)))
    | ((with_reducible apply r_len); rfl; rfl; (exact (rfl : _ = Value.slice _ _ _)); (exact (rfl : _ = some (Value.int _ _))))
    | ((with_reducible apply r_alloc (nid := 1)); rfl; rfl; rfl; exact (rfl : _ = _ :: _))
    | with_reducible refine r_doneN ?_
    | with_reducible refine c_reg ?_
    | with_reducible refine c_seq ?_
    | with_reducible refine x_then ?_
    | ((with_reducible apply c_true); rfl))
  refine c_regPn 2 rfl (rfl : _ = [_, _]) ?_
  repeat (first
    | ((with_reducible apply r_makeInterface); rfl; rfl; exact (rfl : _ = Value.agg _); exact (rfl : _ = some (Value.iface _ _)))
    | ((with_reducible apply r_build); rfl; rfl; rfl; exact (rfl : _ = some (Value.agg _))))
  refine r_done ⟨p_panic rfl rfl, fun u v => ?_⟩
  repeat (first | with_reducible refine x_thenP ?_ | with_reducible refine x_blockP ?_ | with_reducible refine x_leaveP ?_)
  exact x_pan
end Go.Flat
