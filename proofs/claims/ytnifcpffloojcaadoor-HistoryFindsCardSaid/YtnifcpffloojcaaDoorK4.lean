/- Walks and plain laws: what each theorem says, within the bounds that it names. -/
import Derived.Test.YtnifcpffloojcaaDoorK3
set_option linter.unusedVariables false
set_option linter.unusedSimpArgs false
set_option maxRecDepth 20000
namespace Go.Flat
open Go.Proofs
variable {G : Glob}
set_option maxRecDepth 20000 in
set_option maxHeartbeats 8000000 in
theorem way_pan (size index : Nat) (ds : List D) (n c : Nat) (hn : ds.length = n) (hb : n ≤ 1000) (hc : n ≤ c) (hs : size ≤ 1000000) (hi : index ≤ 1000000) (hw : wayF size index ds = none) :
    PanL Tryd.prog G 48 [.int .i64 (size : Nat), .int .i64 (index : Nat), slv 0 0 n c] [dsR ds] := by
  refine pwalk (fn := Tryd.f48) (nt := 41) rfl rfl rfl rfl ?_
  refine c_hole 1 (H' := [dsR ds, hole]) rfl ?_
  repeat (first
    | ((with_reducible apply r_assign); rfl; rfl; (exact (rfl : _ = Value.slice _ _ _)))
    | with_reducible refine r_doneN ?_
    | with_reducible refine c_reg ?_
    | with_reducible refine c_seq ?_
    | with_reducible refine c_block ?_
    | with_reducible refine x_then ?_)
  refine c_weak (Weak.nilTmp (i := 7) (b := 1) true 33 rfl (by decide) rfl) ?_
  refine c_loopN (fun x : WayS => [.int .i64 (x.size : Nat), .int .i64 (x.index : Nat), slv 0 0 x.m c, dead, dead, dead, dead, slv 1 0 x.acc.length x.acc.length]) (fun x => [dsR ds, stpB x.acc])
    (fun x => x.size ≤ 1000000 ∧ x.index ≤ 1000000 ∧ x.m + x.acc.length ≤ n ∧ wayF x.size x.index (ds.take x.m) = none) (fun x => x.size) ⟨size, index, n, []⟩ ⟨hs, hi, by simp, by rw [← hn, List.take_length, hw]⟩ ?_ ?_
  · refine weak_to (n := 2) rfl ?_ rfl ?_
    repeat (first | exact trivial | refine ⟨.inl rfl, ?_⟩ | refine ⟨.inr ⟨rfl, rfl⟩, ?_⟩)
    · simp [dsR, stpB]
  · rintro ⟨size, index, m, acc⟩ ⟨g1, g2, g3, g4⟩
    dsimp only at g1 g2 g3 g4 ⊢
    by_cases h1 : 1 < size
    · rcases Nat.eq_zero_or_pos m with h0 | h0
      · subst h0
        have hL := last_pan (G := G) (sub ds 0 0) c (sub_len (by omega))
        refine c_hole 2 (H' := [dsR ds, stpB acc, hole, hole]) rfl ?_
        iterate 13 (first
          | ((with_reducible apply r_move); rfl; rfl; (exact (rfl : _ = Value.int _ _)))
          | ((with_reducible apply r_bin); rfl; rfl; (exact (rfl : _ = Value.int _ _)); (exact (rfl : _ = Value.int _ _)); (with_reducible exact gtr_t (by omega)))
          | with_reducible refine r_doneN ?_
          | with_reducible refine c_reg ?_
          | with_reducible refine c_seq ?_
          | with_reducible refine c_block ?_
          | with_reducible refine c_skip ?_
          | with_reducible refine x_then ?_
          | ((with_reducible apply c_true); rfl))
        with_reducible apply r_alloc (nid := 2)
        rfl
        rfl
        rfl
        exact (rfl : _ = _ :: _)
        with_reducible refine r_doneN ?_
        with_reducible refine x_then ?_
        with_reducible refine c_seq ?_
        refine c_regPn 1 rfl (rfl : _ = [_]) ?_
        ((with_reducible apply r_move); rfl; rfl; exact (rfl : _ = Value.slice (some ⟨_, _, _⟩) _ _))
        refine r_done ⟨p_call (e := [some (0, 0)]) hL rfl rfl rfl rfl rfl rfl rfl rfl ⟨⟨rfl, rfl, rfl, by omega, by omega⟩, trivial⟩ ⟨emb_sub rfl (.inl rfl) (by omega) rfl, trivial⟩, fun u v => ?_⟩
        repeat (first | with_reducible refine x_thenP ?_ | with_reducible refine x_blockP ?_ | with_reducible refine x_leaveP ?_)
        exact x_pan
      · obtain ⟨t1, t2⟩ := take_init (ds := ds) (m := m) (by omega) h0
        obtain ⟨s1, s2⟩ := splitN_pos (n := size) (by omega)
        have hS := Split_ok (G := G) (size : Int) (by omega)
        have hsz : splitF (size : Int) = (splitN size : Nat) := (splitF_pos (n := size) (by omega)).2.2
        rw [hsz] at hS
        have hL := last_ok (G := G) (sub ds 0 m) (m - 1) c (by rw [sub_len (by omega)]; omega) (by omega) (by omega)
        rw [show m - 1 + 1 = m from by omega] at hL
        have hgd : (sub ds 0 m).getD (m - 1) d0 = (ds.take m).getD ((ds.take m).length - 1) d0 := by rw [t1]; simp [sub]
        rw [hgd] at hL
        have w1 := wayF_lo (size := size) (index := index) (ds := ds.take m) (by omega) (by omega)
        have w2 := wayF_hi (size := size) (index := index) (ds := ds.take m) (by omega) (by omega)
        rw [t2] at w1 w2
        generalize (ds.take m).getD ((ds.take m).length - 1) d0 = x at *
        generalize splitN size = k at *
        refine c_hole 2 (H' := [dsR ds, stpB acc, hole, hole]) rfl ?_
        by_cases hik : index < k
        · have w := w1 hik
          repeat (first
            | ((with_reducible apply r_alloc (nid := 2)); rfl; rfl; rfl; exact (show _ = [dsR ds, stpB acc, st1 d0 false, hole] by kernel_rfl))
            | ((with_reducible apply r_callN (e := [some (0, 0)]) (nid := 0) hL); rfl; rfl; rfl; rfl; rfl; rfl; rfl; refine ⟨⟨⟨rfl, rfl, rfl, by omega, by omega⟩, trivial⟩, ⟨emb_sub rfl (.inl rfl) (by omega) rfl, trivial⟩, rfl, rfl, rfl⟩; exact (show _ = Value.tuple #[dgV x, slv 0 0 (m - 1) c] by kernel_rfl); exact (show _ = [dsR ds, stpB acc, st1 d0 false, hole] by kernel_rfl))
            | ((with_reducible apply r_store); rfl; exact (rfl : _ = Value.pointer (some ⟨2, 0, _⟩)); exact (rfl : _ = Value.agg _); exact (show _ = some (2, st1 x false) by kernel_rfl); exact (show _ = [dsR ds, stpB acc, st1 x false, hole] by kernel_rfl))
            | ((with_reducible apply r_load); rfl; rfl; exact (rfl : _ = Value.pointer (some ⟨2, 0, _⟩)); exact (show _ = some (Value.agg (rowE w8 32 x ++ [Value.bool false]).toArray) by kernel_rfl))
            | ((with_reducible apply r_lit (nid := 3)); rfl; rfl; rfl; exact (rfl : _ = some (Value.slice _ _ _, _)); exact (show _ = [dsR ds, stpB acc, st1 x false, stpB [(x, false)]] by kernel_rfl))
            | ((with_reducible apply r_append); rfl; rfl; rfl; exact .inl ⟨_, rfl⟩; exact (rfl : _ = Value.slice (some ⟨_, _, _⟩) _ _); exact (rfl : _ = Value.slice (some ⟨_, _, _⟩) _ _); exact appD_stp (n := acc.length) (n' := acc.length + 1) (ls := acc) (p := (x, false)) (rfl : _ = some (33, _, 33)) rfl (by kernel_rfl) rfl rfl rfl (by decide) (by omega); rfl; exact (show _ = [dsR ds, stpB (acc ++ [(x, false)]), st1 x false, stpB [(x, false)]] by kernel_rfl))
            | ((with_reducible apply r_move); rfl; rfl; (first
            | exact (rfl : _ = Value.int _ _)
            | exact (rfl : _ = Value.slice _ _ _)
            | exact (rfl : _ = Value.tuple _)))
            | ((with_reducible apply r_assign); rfl; rfl; (first
            | exact (rfl : _ = Value.int _ _)
            | exact (rfl : _ = Value.slice _ _ _)))
            | ((with_reducible apply r_bin); rfl; rfl; (exact (rfl : _ = Value.int _ _)); (exact (rfl : _ = Value.int _ _)); (first
            | with_reducible exact lss_t (by omega)
            | with_reducible exact gtr_t (by omega)))
            | ((with_reducible apply r_fieldAddr); rfl; rfl; exact (rfl : _ = Value.pointer (some ⟨_, _, _⟩)); (exact (rfl : _ = some 0)); (exact Nat.zero_add _))
            | ((with_reducible apply r_extract); rfl; rfl; rfl; (first
            | exact (rfl : _ = some (Value.slice _ _ _))
            | exact (rfl : _ = some (Value.agg _))))
            | ((with_reducible apply r_callP (hS)); rfl; rfl; rfl; rfl; rfl; (exact (rfl : _ = Value.int _ _)))
            | with_reducible refine r_doneN ?_
            | with_reducible refine c_reg ?_
            | with_reducible refine c_seq ?_
            | with_reducible refine c_block ?_
            | with_reducible refine c_skip ?_
            | with_reducible refine x_then ?_
            | with_reducible refine x_blockN ?_
            | ((with_reducible apply c_true); rfl))
          refine x_round ⟨⟨k, index, m - 1, acc ++ [(x, false)]⟩, ⟨by show k ≤ _; omega, g2, by show m - 1 + (acc ++ [(x, false)]).length ≤ n; simp; omega, ?_⟩, by show k < size; omega, ?_⟩
          · rw [w, Option.map_eq_none_iff] at g4
            exact g4
          · show Weak _ _ _ _ ⟨Tl [.int .i64 (k : Nat), .int .i64 (index : Nat), slv 0 0 (m - 1) c, dead, dead, dead, dead, slv 1 0 (acc ++ [(x, false)]).length (acc ++ [(x, false)]).length], [dsR ds, stpB (acc ++ [(x, false)])]⟩
            rw [show (acc ++ [(x, false)]).length = acc.length + 1 from by simp]
            refine weak_to (n := 2) rfl ?_ rfl ?_
            repeat (first | exact trivial | refine ⟨.inl rfl, ?_⟩ | refine ⟨.inr ⟨rfl, rfl⟩, ?_⟩)
            · simp [dsR, stpB]
        · have w := w2 (by omega)
          repeat (first
            | ((with_reducible apply r_alloc (nid := 2)); rfl; rfl; rfl; exact (show _ = [dsR ds, stpB acc, st1 d0 false, hole] by kernel_rfl))
            | ((with_reducible apply r_callN (e := [some (0, 0)]) (nid := 0) hL); rfl; rfl; rfl; rfl; rfl; rfl; rfl; refine ⟨⟨⟨rfl, rfl, rfl, by omega, by omega⟩, trivial⟩, ⟨emb_sub rfl (.inl rfl) (by omega) rfl, trivial⟩, rfl, rfl, rfl⟩; exact (show _ = Value.tuple #[dgV x, slv 0 0 (m - 1) c] by kernel_rfl); exact (show _ = [dsR ds, stpB acc, st1 d0 false, hole] by kernel_rfl))
            | ((with_reducible apply r_store); rfl; exact (rfl : _ = Value.pointer (some ⟨2, 0, _⟩)); exact (rfl : _ = Value.agg _); exact (show _ = some (2, st1 x false) by kernel_rfl); exact (show _ = [dsR ds, stpB acc, st1 x false, hole] by kernel_rfl))
            | ((with_reducible apply r_store); rfl; exact (rfl : _ = Value.pointer (some ⟨2, 32, _⟩)); exact (rfl : _ = Value.bool true); exact (show _ = some (2, st1 x true) by kernel_rfl); exact (show _ = [dsR ds, stpB acc, st1 x true, hole] by kernel_rfl))
            | ((with_reducible apply r_load); rfl; rfl; exact (rfl : _ = Value.pointer (some ⟨2, 0, _⟩)); exact (show _ = some (Value.agg (rowE w8 32 x ++ [Value.bool true]).toArray) by kernel_rfl))
            | ((with_reducible apply r_lit (nid := 3)); rfl; rfl; rfl; exact (rfl : _ = some (Value.slice _ _ _, _)); exact (show _ = [dsR ds, stpB acc, st1 x true, stpB [(x, true)]] by kernel_rfl))
            | ((with_reducible apply r_append); rfl; rfl; rfl; exact .inl ⟨_, rfl⟩; exact (rfl : _ = Value.slice (some ⟨_, _, _⟩) _ _); exact (rfl : _ = Value.slice (some ⟨_, _, _⟩) _ _); exact appD_stp (n := acc.length) (n' := acc.length + 1) (ls := acc) (p := (x, true)) (rfl : _ = some (33, _, 33)) rfl (by kernel_rfl) rfl rfl rfl (by decide) (by omega); rfl; exact (show _ = [dsR ds, stpB (acc ++ [(x, true)]), st1 x true, stpB [(x, true)]] by kernel_rfl))
            | ((with_reducible apply r_move); rfl; rfl; (first
            | exact (rfl : _ = Value.int _ _)
            | exact (rfl : _ = Value.slice _ _ _)
            | exact (rfl : _ = Value.tuple _)))
            | ((with_reducible apply r_assign); rfl; rfl; (first
            | exact (rfl : _ = Value.int _ _)
            | exact (rfl : _ = Value.slice _ _ _)))
            | ((with_reducible apply r_bin); rfl; rfl; (exact (rfl : _ = Value.int _ _)); (exact (rfl : _ = Value.int _ _)); (first
            | with_reducible exact lss_f (by omega)
            | with_reducible exact gtr_t (by omega)
            | with_reducible exact bin_sub rfl (by omega) (by omega)))
            | ((with_reducible apply r_fieldAddr); rfl; rfl; exact (rfl : _ = Value.pointer (some ⟨_, _, _⟩)); (first
            | exact (rfl : _ = some 0)
            | rfl); (exact Nat.zero_add _))
            | ((with_reducible apply r_extract); rfl; rfl; rfl; (first
            | exact (rfl : _ = some (Value.slice _ _ _))
            | exact (rfl : _ = some (Value.agg _))))
            | ((with_reducible apply r_callP (hS)); rfl; rfl; rfl; rfl; rfl; (exact (rfl : _ = Value.int _ _)))
            | with_reducible refine r_doneN ?_
            | with_reducible refine c_reg ?_
            | with_reducible refine c_seq ?_
            | with_reducible refine c_block ?_
            | with_reducible refine c_skip ?_
            | with_reducible refine x_then ?_
            | with_reducible refine x_blockN ?_
            | ((with_reducible apply c_true); rfl)
            | ((with_reducible apply c_false); rfl))
          refine x_round ⟨⟨size - k, index - k, m - 1, acc ++ [(x, true)]⟩, ⟨by show size - k ≤ _; omega, by show index - k ≤ _; omega, by show m - 1 + (acc ++ [(x, true)]).length ≤ n; simp; omega, ?_⟩, by show size - k < size; omega, ?_⟩
          · rw [w, Option.map_eq_none_iff] at g4
            exact g4
          · show Weak _ _ _ _ ⟨Tl [.int .i64 ((size - k : Nat) : Int), .int .i64 ((index - k : Nat) : Int), slv 0 0 (m - 1) c, dead, dead, dead, dead, slv 1 0 (acc ++ [(x, true)]).length (acc ++ [(x, true)]).length], [dsR ds, stpB (acc ++ [(x, true)])]⟩
            rw [show (acc ++ [(x, true)]).length = acc.length + 1 from by simp, show ((size - k : Nat) : Int) = (size : Int) - k from by omega, show ((index - k : Nat) : Int) = (index : Int) - k from by omega]
            refine weak_to (n := 2) rfl ?_ rfl ?_
            repeat (first | exact trivial | refine ⟨.inl rfl, ?_⟩ | refine ⟨.inr ⟨rfl, rfl⟩, ?_⟩)
            · simp [dsR, stpB]
    · rw [wayF_one index _ (by omega)] at g4
      split at g4
      · cases g4
      · rename_i hm0
        have hm : 0 < m := by rw [List.length_take] at hm0; omega
        iterate 18 (first
          | ((with_reducible apply r_move); rfl; rfl; (first
          | exact (rfl : _ = Value.int _ _)
          | exact (rfl : _ = Value.slice _ _ _)))
          | ((with_reducible apply r_bin); rfl; rfl; (exact (rfl : _ = Value.int _ _)); (exact (rfl : _ = Value.int _ _)); (with_reducible exact gtr_f (by omega)))
          | ((with_reducible apply r_len); rfl; rfl; (exact (rfl : _ = Value.slice _ _ _)); (exact (rfl : _ = some (Value.int _ _))))
          | with_reducible refine r_doneN ?_
          | with_reducible refine c_reg ?_
          | with_reducible refine c_seq ?_
          | with_reducible refine c_exit ?_
          | with_reducible refine x_then ?_
          | with_reducible refine x_thenE ?_
          | with_reducible refine x_leaveE ?_
          | ((with_reducible apply c_false); rfl)
          | ((with_reducible apply x_block); rfl))
        ((with_reducible apply r_bin); rfl; rfl; exact (rfl : _ = Value.int _ _); exact (rfl : _ = Value.int _ _); exact gtr_t (by omega))
        with_reducible refine r_doneN ?_
        with_reducible refine x_then ?_
        ((with_reducible apply c_true); rfl)
        refine c_regPn 2 rfl (rfl : _ = [_, _]) ?_
        ((with_reducible apply r_build); rfl; rfl; rfl; exact (rfl : _ = some (Value.agg _)))
        ((with_reducible apply r_makeInterface); rfl; rfl; exact (rfl : _ = Value.agg _); exact (rfl : _ = some (Value.iface _ _)))
        refine r_done ⟨p_panic rfl rfl, fun u v => ?_⟩
        repeat (first | with_reducible refine x_thenP ?_ | with_reducible refine x_blockP ?_ | with_reducible refine x_leaveP ?_)
        exact x_pan
end Go.Flat
