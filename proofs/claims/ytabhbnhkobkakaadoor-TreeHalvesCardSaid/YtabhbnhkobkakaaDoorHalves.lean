/- TreeHalves: for every list and number the law returns true, and its arguments stay; the tables are tied to the program's text. -/
import Derived.Test.YtabhbnhkobkakaaDoorTree
section
set_option linter.unusedVariables false
namespace Go.Flat
open Go.Proofs
variable {G : Glob}
set_option maxHeartbeats 8000000 in
theorem TreeHalves_ok (kk : Nat → BitVec 32) (hG : G 3 = some (rowE w32 64 kk)) (hG1 : G 1 = some (rowE u8N 64 dbF)) (ds : List D) (c : Nat) (i : Int) (hc : ds.length ≤ c) (hm : c ≤ 9223372036854775807) (hi1 : -9223372036854775808 ≤ i) (hi2 : i ≤ 9223372036854775807) :
    CallL Tryd.prog G 9 [slv 0 0 ds.length c, .int .i64 i] [dsR ds] (.bool true) [dsR ds] := by
  refine walk (fn := Tryd.f9) (nt := 102) rfl rfl rfl rfl ?_
  have hS := Split_ok (G := G) (ds.length : Int) (by omega)
  generalize hn : ds.length = n at *
  have hT := three_law (G := G) kk hG hG1
  by_cases h0 : n < 2
  · have hk : splitF (n : Int) = 0 := by unfold splitF; rw [if_pos (by omega)]
    rw [hk] at hS
    by_cases h200 : 200 < n
    · omega
    · skip
      repeat (first
        | ((with_reducible apply r_move); rfl; rfl; (first
        | exact (rfl : _ = Value.int _ _)
        | exact (rfl : _ = Value.bool _)
        | exact (rfl : _ = Value.slice _ _ _)))
        | ((with_reducible apply r_assign); rfl; rfl; (first
        | exact (rfl : _ = Value.int _ _)
        | exact (rfl : _ = Value.bool _)))
        | ((with_reducible apply r_bin); rfl; rfl; (exact (rfl : _ = Value.int _ _)); (exact (rfl : _ = Value.int _ _)); (first
        | with_reducible exact gtr_f (by omega)
        | with_reducible exact eql_t (by omega)))
        | ((with_reducible apply r_pick); rfl; rfl; (exact (rfl : _ = some (Value.bool _))))
        | ((with_reducible apply r_len); rfl; rfl; (exact (rfl : _ = Value.slice _ _ _)); (exact (rfl : _ = some (Value.int _ _))))
        | ((with_reducible apply r_skip); rfl; rfl)
        | ((with_reducible apply r_callP (hS)); rfl; rfl; rfl; rfl; rfl; (exact (rfl : _ = Value.int _ _)))
        | ((with_reducible apply r_callP (hT)); rfl; rfl; rfl; rfl; rfl; (exact (rfl : _ = Value.bool _)))
        | with_reducible refine r_doneN ?_
        | with_reducible refine c_reg ?_
        | with_reducible refine c_seq ?_
        | with_reducible refine c_ret ?_
        | with_reducible refine x_then ?_
        | with_reducible refine x_thenR ?_
        | ((with_reducible apply c_true); rfl))
      refine x_end ?_
      exact end_same (v := .bool true) rfl rfl rfl (dsR_kept ds) rfl
  · obtain ⟨s1, s2, s3⟩ := splitF_pos (n := n) (by omega)
    rw [s3] at hS
    have hkk : splitN n = (splitF (n : Int)).toNat := rfl
    generalize (splitF (n : Int)).toNat = k at *
    by_cases h200 : 200 < n
    · skip
      repeat (first
        | ((with_reducible apply r_move); rfl; rfl; (first
        | exact (rfl : _ = Value.bool _)
        | exact (rfl : _ = Value.slice _ _ _)))
        | ((with_reducible apply r_assign); rfl; rfl; (first
        | exact (rfl : _ = Value.int _ _)
        | exact (rfl : _ = Value.bool _)))
        | ((with_reducible apply r_bin); rfl; rfl; (exact (rfl : _ = Value.int _ _)); (exact (rfl : _ = Value.int _ _)); (with_reducible exact gtr_t (by omega)))
        | ((with_reducible apply r_pick); rfl; rfl; (exact (rfl : _ = some (Value.bool _))))
        | ((with_reducible apply r_len); rfl; rfl; (exact (rfl : _ = Value.slice _ _ _)); (exact (rfl : _ = some (Value.int _ _))))
        | ((with_reducible apply r_skip); rfl; rfl)
        | ((with_reducible apply r_callP (hS)); rfl; rfl; rfl; rfl; rfl; (exact (rfl : _ = Value.int _ _)))
        | ((with_reducible apply r_callP (hT)); rfl; rfl; rfl; rfl; rfl; (exact (rfl : _ = Value.bool _)))
        | with_reducible refine r_doneN ?_
        | with_reducible refine c_reg ?_
        | with_reducible refine c_seq ?_
        | with_reducible refine c_ret ?_
        | with_reducible refine x_then ?_
        | with_reducible refine x_thenR ?_
        | ((with_reducible apply c_true); rfl))
      refine x_end ?_
      exact end_same (v := .bool true) rfl rfl rfl (dsR_kept ds) rfl
    · by_cases hneg : i < 0
      · skip
        repeat (first
          | ((with_reducible apply r_move); rfl; rfl; (first
          | exact (rfl : _ = Value.int _ _)
          | exact (rfl : _ = Value.bool _)
          | exact (rfl : _ = Value.slice _ _ _)))
          | ((with_reducible apply r_assign); rfl; rfl; (first
          | exact (rfl : _ = Value.int _ _)
          | exact (rfl : _ = Value.bool _)))
          | ((with_reducible apply r_bin); rfl; rfl; (exact (rfl : _ = Value.int _ _)); (exact (rfl : _ = Value.int _ _)); (first
          | with_reducible exact lss_t (by omega)
          | with_reducible exact gtr_f (by omega)
          | with_reducible exact eql_f (by omega)))
          | ((with_reducible apply r_pick); rfl; rfl; (exact (rfl : _ = some (Value.bool _))))
          | ((with_reducible apply r_len); rfl; rfl; (exact (rfl : _ = Value.slice _ _ _)); (exact (rfl : _ = some (Value.int _ _))))
          | ((with_reducible apply r_skip); rfl; rfl)
          | ((with_reducible apply r_callP (hS)); rfl; rfl; rfl; rfl; rfl; (exact (rfl : _ = Value.int _ _)))
          | ((with_reducible apply r_callP (hT)); rfl; rfl; rfl; rfl; rfl; (exact (rfl : _ = Value.bool _)))
          | with_reducible refine r_doneN ?_
          | with_reducible refine c_reg ?_
          | with_reducible refine c_seq ?_
          | with_reducible refine c_ret ?_
          | with_reducible refine x_then ?_
          | with_reducible refine x_thenR ?_
          | ((with_reducible apply c_true); rfl))
        refine x_end ?_
        exact end_same (v := .bool true) rfl rfl rfl (dsR_kept ds) rfl
      · obtain ⟨i, rfl⟩ : ∃ j : Nat, i = j := ⟨i.toNat, by omega⟩
        by_cases hin : n ≤ i
        · skip
          repeat (first
            | ((with_reducible apply r_move); rfl; rfl; (first
            | exact (rfl : _ = Value.int _ _)
            | exact (rfl : _ = Value.bool _)
            | exact (rfl : _ = Value.slice _ _ _)))
            | ((with_reducible apply r_assign); rfl; rfl; (first
            | exact (rfl : _ = Value.int _ _)
            | exact (rfl : _ = Value.bool _)))
            | ((with_reducible apply r_bin); rfl; rfl; (exact (rfl : _ = Value.int _ _)); (exact (rfl : _ = Value.int _ _)); (first
            | with_reducible exact lss_f (by omega)
            | with_reducible exact gtr_f (by omega)
            | with_reducible exact geq_t (by omega)
            | with_reducible exact eql_f (by omega)))
            | ((with_reducible apply r_pick); rfl; rfl; (exact (rfl : _ = some (Value.bool _))))
            | ((with_reducible apply r_len); rfl; rfl; (exact (rfl : _ = Value.slice _ _ _)); (exact (rfl : _ = some (Value.int _ _))))
            | ((with_reducible apply r_callP (hS)); rfl; rfl; rfl; rfl; rfl; (exact (rfl : _ = Value.int _ _)))
            | ((with_reducible apply r_callP (hT)); rfl; rfl; rfl; rfl; rfl; (exact (rfl : _ = Value.bool _)))
            | with_reducible refine r_doneN ?_
            | with_reducible refine c_reg ?_
            | with_reducible refine c_seq ?_
            | with_reducible refine c_ret ?_
            | with_reducible refine x_then ?_
            | with_reducible refine x_thenR ?_
            | ((with_reducible apply c_true); rfl))
          refine x_end ?_
          exact end_same (v := .bool true) rfl rfl rfl (dsR_kept ds) rfl
        · by_cases hik : i < k
          · have hp := inclP_lo kk (l := ds) (i := i) (by omega) (by rw [hn, hkk]; exact hik)
            rw [hn, hkk] at hp
            have hI := Incl_ok (G := G) kk hG hG1 ds c i hn (by omega) hc (by omega) rfl
            rw [hp] at hI
            have e1 : ds.take k = sub ds 0 k := by simp [sub]
            have e2 : ds.drop k = sub ds k (n - k) := by unfold sub; rw [List.take_of_length_le (by simp; omega)]
            rw [e1, e2] at hI
            have hI2 := Incl_ok (G := G) kk hG hG1 (sub ds 0 k) c i (sub_len (by omega)) (by omega) (by omega) hik rfl
            have hR := Root_ok' (G := G) kk hG hG1 (sub ds k (n - k)) (c := c - k) (sub_len (by omega)) (by omega) (by omega) rfl
            have hQl := inclP_len kk k (sub ds 0 k) i (by rw [sub_len (by omega)]; exact Nat.le_refl _)
            rw [sub_len (by omega)] at hQl
            generalize inclP kk (sub ds 0 k) i = Q at *
            generalize rootI kk (sub ds k (n - k)) = x at *
            rw [show (Q ++ [x]).length = Q.length + 1 from by simp] at hI
            have hD := Digests_ok (G := G) Q Q Q.length Q.length (by omega) (by omega)
            rw [sameDs_refl] at hD
            have hlen : (dsB (Q ++ [x])).cells.length = (Q.length + 1) * 32 := by show (dsC _).length = _; rw [dsC_len]; simp
            have hLe : Q.length * 32 + 32 ≤ (dsB (Q ++ [x])).cells.length := by rw [hlen]; omega
            have HQ : ((Q.length + 1 : Nat) : Int) - 1 = (Q.length : Nat) := by omega
            refine c_hole 3 (H' := [dsR ds, hole, hole, hole]) rfl ?_
            repeat (first
              | ((with_reducible apply r_callN (e := [some (0, 0)]) (nid := 1) hI); rfl; rfl; rfl; rfl; rfl; rfl; rfl; refine ⟨⟨⟨rfl, rfl, by omega, by omega, by omega⟩, rfl, trivial⟩, ⟨emb_ro rfl rfl (by show 0 + (dsC _).length ≤ (dsC _).length; omega) (dsC_whole _), trivial⟩, rfl, rfl, rfl⟩; exact (show _ = Value.tuple #[slv 1 0 (Q.length + 1) (Q.length + 1), .int .i64 0] by kernel_rfl); exact (show _ = [dsR ds, dsB (Q ++ [x]), hole, hole] by kernel_rfl))
              | ((with_reducible apply r_callN (e := [some (0, 0)]) (nid := 2) hI2); rfl; rfl; rfl; rfl; rfl; rfl; rfl; refine ⟨⟨⟨rfl, rfl, by omega, by omega, by omega⟩, rfl, trivial⟩, ⟨emb_sub rfl (.inl rfl) (by omega) rfl, trivial⟩, rfl, rfl, rfl⟩; exact (show _ = Value.tuple #[slv 2 0 Q.length Q.length, .int .i64 0] by kernel_rfl); exact (show _ = [dsR ds, dsB (Q ++ [x]), dsB Q, hole] by kernel_rfl))
              | ((with_reducible apply r_callN (e := [some (0, k * 32)]) (nid := 0) hR); rfl; rfl; rfl; rfl; rfl; rfl; rfl; refine ⟨⟨⟨rfl, rfl, by omega, by omega, by omega⟩, trivial⟩, ⟨emb_sub rfl (.inl rfl) (by omega) rfl, trivial⟩, rfl, rfl, rfl⟩; exact (rfl : _ = Value.agg _); exact (rfl : _ = _ :: _))
              | ((with_reducible apply r_slice); rfl; rfl; exact (rfl : _ = Value.slice (some ⟨_, _, _⟩) _ _); rfl; rfl; first | exact slice_hi (h := k) rfl rfl rfl (by omega) rfl | exact slice_lo (l := k) (sz := 32) (j := k * 32) (m := n - k) (c' := c - k) rfl rfl rfl rfl (by omega) (by omega) rfl (by omega) (by omega) (by omega) | exact slice_hi (h := Q.length) rfl rfl HQ (by omega) rfl)
              | ((with_reducible apply r_callN (e := [some (1, 0), some (2, 0)]) (nid := 0) hD); rfl; rfl; rfl; rfl; rfl; rfl; rfl; refine ⟨⟨⟨rfl, rfl, rfl, by omega, by omega⟩, ⟨rfl, rfl, rfl, by omega, by omega⟩, trivial⟩, ⟨emb_pre rfl, emb_ds rfl, trivial⟩, rfl, rfl, rfl⟩; exact (rfl : _ = Value.bool true); exact (rfl : _ = _ :: _))
              | ((with_reducible apply r_load); rfl; rfl; exact (rfl : _ = Value.pointer (some ⟨_, _, _⟩)); first | exact loadA_agg (b := 1) (n := 32) rfl rfl hLe (dsC_at Q x []) | exact loadA_agg (b := 3) (n := 32) rfl rfl (by decide) (dg_at x))
              | ((with_reducible apply r_bin); rfl; rfl; exact (rfl : _ = Value.agg _); exact (rfl : _ = Value.agg _); refine Eq.trans (eql_dg (a := x) (b := x) (by kernel_rfl) rfl rfl rfl) ?_; rw [sameB_refl])
              | ((with_reducible apply r_idxS (j := Q.length * 32)); rfl; rfl; exact (rfl : _ = Value.slice (some ⟨_, _, _⟩) _ _); (exact (rfl : _ = Value.int _ _)); (exact (rfl : _ = some (_, 32))); omega; omega; omega)
              | ((with_reducible apply r_move); rfl; rfl; (first
              | exact (rfl : _ = Value.int _ _)
              | exact (rfl : _ = Value.bool _)
              | exact (rfl : _ = Value.slice _ _ _)
              | exact (rfl : _ = Value.tuple _)))
              | ((with_reducible apply r_assign); rfl; rfl; (first
              | exact (rfl : _ = Value.int _ _)
              | exact (rfl : _ = Value.bool _)
              | exact (rfl : _ = Value.slice _ _ _)))
              | ((with_reducible apply r_bin); rfl; rfl; (exact (rfl : _ = Value.int _ _)); (exact (rfl : _ = Value.int _ _)); (first
              | with_reducible exact lss_f (by omega)
              | with_reducible exact gtr_f (by omega)
              | with_reducible exact geq_f (by omega)
              | with_reducible exact eql_t (by omega)
              | with_reducible exact eql_f (by omega)
              | with_reducible exact neq_f (by omega)
              | with_reducible exact bin_sub rfl (by omega) (by omega)))
              | ((with_reducible apply r_pick); rfl; rfl; (exact (rfl : _ = some (Value.bool _))))
              | ((with_reducible apply r_load); rfl; rfl; exact (rfl : _ = Value.pointer (some ⟨_, _, _⟩)); (exact (rfl : _ = some (Value.agg _))))
              | ((with_reducible apply r_len); rfl; rfl; (exact (rfl : _ = Value.slice _ _ _)); (exact (rfl : _ = some (Value.int _ _))))
              | ((with_reducible apply r_extract); rfl; rfl; rfl; (first
              | exact (rfl : _ = some (Value.int _ _))
              | exact (rfl : _ = some (Value.slice _ _ _))))
              | ((with_reducible apply r_store); rfl; exact (rfl : _ = Value.pointer (some ⟨_, _, _⟩)); (exact (rfl : _ = Value.agg _)); (rfl); exact (rfl : _ = _ :: _))
              | ((with_reducible apply r_alloc (nid := 3)); rfl; rfl; rfl; exact (rfl : _ = _ :: _))
              | ((with_reducible apply r_callP (hS)); rfl; rfl; rfl; rfl; rfl; (exact (rfl : _ = Value.int _ _)))
              | ((with_reducible apply r_callP (hT)); rfl; rfl; rfl; rfl; rfl; (exact (rfl : _ = Value.bool _)))
              | with_reducible refine r_doneN ?_
              | with_reducible refine c_reg ?_
              | with_reducible refine c_seq ?_
              | with_reducible refine c_skip ?_
              | with_reducible refine c_ret ?_
              | with_reducible refine x_then ?_
              | (with_reducible refine r_doneD (by kernel_rfl) ?_)
              | (with_reducible refine c_draw (by kernel_rfl) ?_)
              | ((with_reducible apply c_false); rfl))
            refine x_end ?_
            exact end_same (v := .bool true) rfl rfl rfl (dsR_kept ds) rfl
          · have hp := inclP_hi kk (l := ds) (i := i) (by omega) (by rw [hn, hkk]; omega)
            rw [hn, hkk] at hp
            have hI := Incl_ok (G := G) kk hG hG1 ds c i hn (by omega) hc (by omega) rfl
            rw [hp] at hI
            have e1 : ds.take k = sub ds 0 k := by simp [sub]
            have e2 : ds.drop k = sub ds k (n - k) := by unfold sub; rw [List.take_of_length_le (by simp; omega)]
            rw [e1, e2] at hI
            have hB := Inclusion_bad (G := G) (sub ds 0 k) c i (.inr (by rw [sub_len (by omega)]; omega))
            rw [sub_len (by omega)] at hB
            have hI2 := Incl_ok (G := G) kk hG hG1 (sub ds k (n - k)) (c - k) (i - k) (sub_len (by omega)) (by omega) (by omega) (by omega) rfl
            have hR := Root_ok' (G := G) kk hG hG1 (sub ds k (n - k)) (c := c - k) (sub_len (by omega)) (by omega) (by omega) rfl
            have hR2 := Root_ok' (G := G) kk hG hG1 (sub ds 0 k) (c := c) (sub_len (by omega)) (by omega) (by omega) rfl
            have hQl := inclP_len kk (n - k) (sub ds k (n - k)) (i - k) (by rw [sub_len (by omega)]; exact Nat.le_refl _)
            rw [sub_len (by omega)] at hQl
            generalize inclP kk (sub ds k (n - k)) (i - k) = Q at *
            generalize rootI kk (sub ds 0 k) = x at *
            generalize rootI kk (sub ds k (n - k)) = y at *
            rw [show (Q ++ [x]).length = Q.length + 1 from by simp] at hI
            rw [show ((i - k : Nat) : Int) = (i : Int) - k from by omega] at hI2
            have hD := Digests_ok (G := G) Q Q Q.length Q.length (by omega) (by omega)
            rw [sameDs_refl] at hD
            have hlen : (dsB (Q ++ [x])).cells.length = (Q.length + 1) * 32 := by show (dsC _).length = _; rw [dsC_len]; simp
            have hLe : Q.length * 32 + 32 ≤ (dsB (Q ++ [x])).cells.length := by rw [hlen]; omega
            have HQ : ((Q.length + 1 : Nat) : Int) - 1 = (Q.length : Nat) := by omega
            refine c_hole 3 (H' := [dsR ds, hole, hole, hole]) rfl ?_
            repeat (first
              | ((with_reducible apply r_callN (e := [some (0, 0)]) (nid := 1) hI); rfl; rfl; rfl; rfl; rfl; rfl; rfl; refine ⟨⟨⟨rfl, rfl, by omega, by omega, by omega⟩, rfl, trivial⟩, ⟨emb_ro rfl rfl (by show 0 + (dsC _).length ≤ (dsC _).length; omega) (dsC_whole _), trivial⟩, rfl, rfl, rfl⟩; exact (show _ = Value.tuple #[slv 1 0 (Q.length + 1) (Q.length + 1), .int .i64 0] by kernel_rfl); exact (show _ = [dsR ds, dsB (Q ++ [x]), hole, hole] by kernel_rfl))
              | ((with_reducible apply r_callN (e := [some (0, 0)]) (nid := 0) hB); rfl; rfl; rfl; rfl; rfl; rfl; rfl; refine ⟨⟨⟨rfl, rfl, by omega, by omega, by omega⟩, rfl, trivial⟩, ⟨emb_sub rfl (.inl rfl) (by omega) rfl, trivial⟩, rfl, rfl, rfl⟩; exact (show _ = Value.tuple #[nilS, .int .i64 20] by kernel_rfl); exact (rfl : _ = _ :: _))
              | ((with_reducible apply r_callN (e := [some (0, k * 32)]) (nid := 3) hI2); rfl; rfl; rfl; rfl; rfl; rfl; rfl; refine ⟨⟨⟨rfl, rfl, by omega, by omega, by omega⟩, rfl, trivial⟩, ⟨emb_sub rfl (.inl rfl) (by omega) rfl, trivial⟩, rfl, rfl, rfl⟩; exact (show _ = Value.tuple #[slv 3 0 Q.length Q.length, .int .i64 0] by kernel_rfl); exact (rfl : _ = _ :: _))
              | ((with_reducible apply r_callN (e := [some (0, k * 32)]) (nid := 0) hR); rfl; rfl; rfl; rfl; rfl; rfl; rfl; refine ⟨⟨⟨rfl, rfl, by omega, by omega, by omega⟩, trivial⟩, ⟨emb_sub rfl (.inl rfl) (by omega) rfl, trivial⟩, rfl, rfl, rfl⟩; exact (rfl : _ = Value.agg _); exact (rfl : _ = _ :: _))
              | ((with_reducible apply r_callN (e := [some (0, 0)]) (nid := 0) hR2); rfl; rfl; rfl; rfl; rfl; rfl; rfl; refine ⟨⟨⟨rfl, rfl, by omega, by omega, by omega⟩, trivial⟩, ⟨emb_sub rfl (.inl rfl) (by omega) rfl, trivial⟩, rfl, rfl, rfl⟩; exact (rfl : _ = Value.agg _); exact (rfl : _ = _ :: _))
              | ((with_reducible apply r_slice); rfl; rfl; exact (rfl : _ = Value.slice (some ⟨_, _, _⟩) _ _); rfl; rfl; first | exact slice_hi (h := k) rfl rfl rfl (by omega) rfl | exact slice_lo (l := k) (sz := 32) (j := k * 32) (m := n - k) (c' := c - k) rfl rfl rfl rfl (by omega) (by omega) rfl (by omega) (by omega) (by omega) | exact slice_hi (h := Q.length) rfl rfl HQ (by omega) rfl)
              | ((with_reducible apply r_callN (e := [some (1, 0), some (3, 0)]) (nid := 0) hD); rfl; rfl; rfl; rfl; rfl; rfl; rfl; refine ⟨⟨⟨rfl, rfl, rfl, by omega, by omega⟩, ⟨rfl, rfl, rfl, by omega, by omega⟩, trivial⟩, ⟨emb_pre rfl, emb_ds rfl, trivial⟩, rfl, rfl, rfl⟩; exact (rfl : _ = Value.bool true); exact (rfl : _ = _ :: _))
              | ((with_reducible apply r_load); rfl; rfl; exact (rfl : _ = Value.pointer (some ⟨_, _, _⟩)); first | exact loadA_agg (b := 1) (n := 32) rfl rfl hLe (dsC_at Q x []) | exact loadA_agg (b := 2) (n := 32) rfl rfl (by decide) (dg_at x))
              | ((with_reducible apply r_bin); rfl; rfl; exact (rfl : _ = Value.agg _); exact (rfl : _ = Value.agg _); refine Eq.trans (eql_dg (a := x) (b := x) (by kernel_rfl) rfl rfl rfl) ?_; rw [sameB_refl])
              | ((with_reducible apply r_idxS (j := Q.length * 32)); rfl; rfl; exact (rfl : _ = Value.slice (some ⟨_, _, _⟩) _ _); (exact (rfl : _ = Value.int _ _)); (exact (rfl : _ = some (_, 32))); omega; omega; omega)
              | ((with_reducible apply r_move); rfl; rfl; (first
              | exact (rfl : _ = Value.int _ _)
              | exact (rfl : _ = Value.bool _)
              | exact (rfl : _ = Value.slice _ _ _)
              | exact (rfl : _ = Value.tuple _)))
              | ((with_reducible apply r_assign); rfl; rfl; (first
              | exact (rfl : _ = Value.int _ _)
              | exact (rfl : _ = Value.bool _)
              | exact (rfl : _ = Value.slice _ _ _)))
              | ((with_reducible apply r_bin); rfl; rfl; (exact (rfl : _ = Value.int _ _)); (exact (rfl : _ = Value.int _ _)); (first
              | with_reducible exact lss_f (by omega)
              | with_reducible exact gtr_f (by omega)
              | with_reducible exact geq_t (by omega)
              | with_reducible exact geq_f (by omega)
              | with_reducible exact eql_t (by omega)
              | with_reducible exact eql_f (by omega)
              | with_reducible exact neq_f (by omega)
              | with_reducible exact bin_sub rfl (by omega) (by omega)))
              | ((with_reducible apply r_pick); rfl; rfl; (exact (rfl : _ = some (Value.bool _))))
              | ((with_reducible apply r_load); rfl; rfl; exact (rfl : _ = Value.pointer (some ⟨_, _, _⟩)); (exact (rfl : _ = some (Value.agg _))))
              | ((with_reducible apply r_len); rfl; rfl; (exact (rfl : _ = Value.slice _ _ _)); (exact (rfl : _ = some (Value.int _ _))))
              | ((with_reducible apply r_extract); rfl; rfl; rfl; (first
              | exact (rfl : _ = some (Value.int _ _))
              | exact (rfl : _ = some (Value.slice _ _ _))))
              | ((with_reducible apply r_store); rfl; exact (rfl : _ = Value.pointer (some ⟨_, _, _⟩)); (exact (rfl : _ = Value.agg _)); (rfl); exact (rfl : _ = _ :: _))
              | ((with_reducible apply r_alloc (nid := 2)); rfl; rfl; rfl; exact (rfl : _ = _ :: _))
              | ((with_reducible apply r_callP (hS)); rfl; rfl; rfl; rfl; rfl; (exact (rfl : _ = Value.int _ _)))
              | ((with_reducible apply r_callP (hT)); rfl; rfl; rfl; rfl; rfl; (exact (rfl : _ = Value.bool _)))
              | with_reducible refine r_doneN ?_
              | with_reducible refine c_reg ?_
              | with_reducible refine c_seq ?_
              | with_reducible refine c_skip ?_
              | with_reducible refine c_ret ?_
              | with_reducible refine x_then ?_
              | (with_reducible refine r_doneD (by kernel_rfl) ?_)
              | (with_reducible refine c_draw (by kernel_rfl) ?_)
              | ((with_reducible apply c_true); rfl)
              | ((with_reducible apply c_false); rfl))
            refine x_end ?_
            exact end_same (v := .bool true) rfl rfl rfl (dsR_kept ds) rfl
end Go.Flat
end
section
namespace Go.Proofs.YtabhbnhkobkakaaDoor
open Go.ChangeShapes Go.WideShapes Go.ChangeAt Go.RowKit
set_option linter.unusedVariables false
set_option maxRecDepth 100000 in
theorem treeHalves_lifted (os : Os) (started : os.Started) (H : Type) (enc : TypeId × Value → H) :
    ReturnsInHanded {} Tryd.checked os 9 .any (fun w args => (Rows.treeHalvesSpec.pre enc Tryd.prog Tryd.f9 Rows.treeHalvesRow.domain false w args ∧ laidMetH Tryd.prog Rows.treeHalvesRow.laid w) ∧ sizedMet enc Tryd.prog Tryd.f9 (OpenSpec.ofChange Rows.treeHalvesSpec) false w args)
      (Rows.treeHalvesSpec.post enc Tryd.prog Tryd.f9 false true false false) := by
  refine returnsInHanded_of_change_and (C := Tryd.checked) (X := fun w _ => laidMetH Tryd.prog Rows.treeHalvesRow.laid w) (fun _ _ _ hh h => h.of_heap hh) own started (by kernel_rfl) Tryd.func9
    (ChangeSpec.witness_shaped (enc := enc) (C := Tryd.checked) (os := os) (X := fun w _ => laidMetH Tryd.prog Rows.treeHalvesRow.laid w) false (World.laidAll Tryd.prog os Rows.treeHalvesRow.laid) #[.slice none 0 0, .int .i64 0] 8 (World.laidAll_os _ _ _)
      (World.shaped_of_ZipB (by kernel_rfl) (by kernel_rfl)) (by kernel_rfl) (by kernel_rfl) (by kernel_rfl)
      (by rw [MakeChecks.laidMetH_plain _ _ _ (by kernel_rfl)]; exact laidMet_laidAll _ (by kernel_rfl) (by kernel_rfl))) ?_
  intro W base args ds gs before hval0 hW hc _ hL _
  have hval : ∀ (j : Nat) t v, Tryd.f9.params[j]? = some t → args[j]? = some v → Value.okWide Tryd.prog W .any base t v := hval0
  have hW' := hW
  obtain ⟨p, q, hA0, hV, _, _, _⟩ := hW'
  have hA : DataW.TrodAll enc Tryd.prog W 0 (fun _ => true) true Tryd.f9.params.toList args.toList ds p := hA0
  rw [Tryd.params9] at hA hval
  obtain ⟨v0, v1, d0, d1, p0, p1, rfl, rfl, rfl, h0, h1⟩ := trodAll_two hA
  have hrel0 := hrel_of_laid (by kernel_rfl) hL (by simp [Rows.treeHalvesRow]) (by simp [Rows.treeHalvesRow])
  have hro0 : ∀ (b : Nat) (r : Flat.Reg), (fun _ => none : Flat.MapM) b = some r → r.wr = false := fun _ _ h => by cases h
  obtain ⟨ds0, c0, m0, l0, u0, hrel1, hro1, hext0, hv0⟩ := hrel0.addDs hro0 Tryd.underlying22 Tryd.underlying26 Tryd.underlying5 (by kernel_rfl) (by kernel_rfl) (hval 0 22 v0 rfl rfl) h0
  obtain ⟨x1, rfl, _, _, wx1⟩ := open_int Tryd.underlying3 (hval 1 3 v1 rfl rfl) h1
  have b1 : -9223372036854775808 ≤ x1 ∧ x1 ≤ 9223372036854775807 := by
    rw [Lit.wf, Bool.and_eq_true] at wx1
    exact ⟨of_decide_eq_true wx1.1, of_decide_eq_true wx1.2⟩
  exact Flat.law_calls (argsL := [Flat.slv 0 0 ds0.length c0, .int .i64 x1]) hW rfl rfl rfl Tryd.underlying4 (by kernel_rfl) (by kernel_rfl) hro1 hrel1 (Flat.L2.cons (hv0) (Flat.L2.cons (rfl) Flat.L2.nil)) (Flat.TreeHalves_ok kk hG hG1 ds0 c0 x1 l0 u0 b1.1 b1.2)
theorem treeHalves_said : Rows.TreeHalvesSaid :=
  OpenClaim.holds_of_wide 9 Tryd.f9 rfl rfl rfl rfl rfl rfl rfl ⟨rfl, rfl, rfl, rfl, rfl⟩ rfl rfl rfl rfl rfl (by kernel_rfl) Tryd.func9 (by kernel_rfl)
    (of_decide_eq_true (by kernel_rfl)) (by unfold Func.isWrapper; first | (rw [if_pos (by decide +kernel)]; kernel_rfl) | (rw [if_neg (by decide +kernel)]; exact ⟨rfl, rfl⟩))
    (fun os started H enc _ => treeHalves_lifted os started H enc)
theorem treeHalves_holds : Rows.TreeHalvesCardSaid :=
  Claim7.holds_tied_plain_at .later [] [.data, .data, .data] true (true, "b75c6d91873f64bda9656c4e5567a44aaef6adadaae2519fb6a4187272d27960") false treeHalves_said (fun _ h => by cases h) (by kernel_rfl) (fun _ h => by cases h) treeHalves_row_tie rfl ⟨rfl, rfl⟩ (by kernel_rfl) rfl
    (fun f fn hf hfn => by
      obtain rfl : f = 9 := Option.some.inj ((show Tryd.prog.funcNamed "estreat/estreatlaw03.TreeHalves" = some 9 by kernel_rfl).symm.trans hf) |>.symm
      obtain rfl : fn = Tryd.f9 := (Option.some.inj (Tryd.func9.symm.trans hfn)).symm
      exact ⟨by kernel_rfl, fun j t ht => by
        rw [Tryd.params9] at ht
        have hm : t ∈ [22, 3] := by simpa using Array.mem_of_getElem? ht
        have hall : ([22, 3].all fun u => !Tryd.prog.wantsStandIn u) = true := by kernel_rfl
        exact (show Tryd.prog.wantsStandIn t = false by simpa using List.all_eq_true.1 hall t hm)⟩)
    (by kernel_rfl)
#print axioms treeHalves_holds
end Go.Proofs.YtabhbnhkobkakaaDoor
end
