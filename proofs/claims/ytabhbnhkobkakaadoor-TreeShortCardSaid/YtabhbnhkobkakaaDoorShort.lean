/- TreeShort: for every list and number the law returns true, and its arguments stay; the tables are tied to the program's text. -/
import Derived.Test.YtabhbnhkobkakaaDoorPlain
import Derived.Test.YtabhbnhkobkakaaDoorTree
section
set_option linter.unusedVariables false
namespace Go.Flat
open Go.Proofs
variable {G : Glob}
set_option maxHeartbeats 16000000 in
theorem TreeShort_ok (kk : Nat → BitVec 32) (hG : G 3 = some (rowE w32 64 kk)) (hG1 : G 1 = some (rowE u8N 64 dbF)) (ds : List D) (c : Nat) (I : Int) (hc : ds.length ≤ c) (hm : c ≤ 9223372036854775807) (hi1 : -9223372036854775808 ≤ I) (hi2 : I ≤ 9223372036854775807) :
    CallL Tryd.prog G 6 [slv 0 0 ds.length c, .int .i64 I] [dsR ds] (.bool true) [dsR ds] := by
  refine walk (fn := Tryd.f6) (nt := 88) rfl rfl rfl rfl ?_
  generalize hn : ds.length = n at *
  by_cases h200 : 200 < n
  · skip
    repeat (first
      | ((with_reducible apply r_move); rfl; rfl; (exact (rfl : _ = Value.slice _ _ _)))
      | ((with_reducible apply r_assign); rfl; rfl; (exact (rfl : _ = Value.bool _)))
      | ((with_reducible apply r_bin); rfl; rfl; (exact (rfl : _ = Value.int _ _)); (exact (rfl : _ = Value.int _ _)); (with_reducible exact gtr_t (by omega)))
      | ((with_reducible apply r_len); rfl; rfl; (exact (rfl : _ = Value.slice _ _ _)); (exact (rfl : _ = some (Value.int _ _))))
      | with_reducible refine r_doneN ?_
      | with_reducible refine c_reg ?_
      | with_reducible refine c_seq ?_
      | with_reducible refine c_ret ?_
      | with_reducible refine x_then ?_
      | with_reducible refine x_thenR ?_
      | ((with_reducible apply c_true); rfl))
    refine x_end ?_
    exact end_same (v := .bool true) rfl rfl rfl (dsR_kept ds) rfl
  · have hT := three_law (G := G) kk hG hG1
    have hS := Split_ok (G := G) (n : Int) (by omega)
    repeat (first
      | ((with_reducible apply r_move); rfl; rfl; (exact (rfl : _ = Value.slice _ _ _)))
      | ((with_reducible apply r_assign); rfl; rfl; (first
      | exact (rfl : _ = Value.int _ _)
      | exact (rfl : _ = Value.bool _)))
      | ((with_reducible apply r_bin); rfl; rfl; (exact (rfl : _ = Value.int _ _)); (exact (rfl : _ = Value.int _ _)); (with_reducible exact gtr_f (by omega)))
      | ((with_reducible apply r_len); rfl; rfl; (exact (rfl : _ = Value.slice _ _ _)); (exact (rfl : _ = some (Value.int _ _))))
      | with_reducible refine r_doneN ?_
      | with_reducible refine c_reg ?_
      | with_reducible refine c_seq ?_
      | with_reducible refine c_block ?_
      | with_reducible refine c_skip ?_
      | with_reducible refine x_then ?_
      | ((with_reducible apply c_false); rfl))
    refine c_loopN (fun t : Nat => [slv 0 0 n c, .int .i64 I, dead, dead, dead, .int .i64 (t : Nat), .int .i64 ((2 ^ t : Nat) : Int)]) (fun _ => [dsR ds]) (fun t => t ≤ 8 ∧ 2 ^ t < 512) (fun t => 8 - t) 0 ⟨by omega, by decide⟩ ?_ ?_
    · refine weak_to (n := 1) rfl ?_ rfl (dsR_kept ds)
      repeat (first | exact trivial | refine ⟨.inl rfl, ?_⟩ | refine ⟨.inr ⟨rfl, rfl⟩, ?_⟩)
    · rintro t ⟨ht, ht2⟩
      have hp1 : 2 ^ (t + 1) = 2 * 2 ^ t := by rw [Nat.pow_succ]; omega
      have hp0 : 1 ≤ 2 ^ t := Nat.pow_pos (by decide)
      have ht8 : 2 ^ t < n → t ≤ 7 := by
        intro h
        rcases Nat.lt_or_ge t 8 with h8 | h8
        · omega
        · have : t = 8 := by omega
          subst this; omega
      have hmost : ∀ q, q = 2 ^ t → n ≤ q → n ≤ 2 ^ t := fun q h1 h2 => h1 ▸ h2
      by_cases hlt : 2 ^ t < n
      · generalize hq : 2 ^ t = q at *
        repeat (first
          | ((with_reducible apply r_move); rfl; rfl; (first
          | exact (rfl : _ = Value.int _ _)
          | exact (rfl : _ = Value.slice _ _ _)))
          | ((with_reducible apply r_assign); rfl; rfl; (exact (rfl : _ = Value.int _ _)))
          | ((with_reducible apply r_bin); rfl; rfl; (exact (rfl : _ = Value.int _ _)); (exact (rfl : _ = Value.int _ _)); (first
          | with_reducible exact lss_t (by omega)
          | with_reducible exact bin_add rfl (by omega) (by omega)
          | with_reducible exact bin_mul rfl (by omega) (by omega)))
          | ((with_reducible apply r_len); rfl; rfl; (exact (rfl : _ = Value.slice _ _ _)); (exact (rfl : _ = some (Value.int _ _))))
          | with_reducible refine r_doneN ?_
          | with_reducible refine c_reg ?_
          | with_reducible refine c_seq ?_
          | with_reducible refine c_block ?_
          | with_reducible refine c_skip ?_
          | with_reducible refine x_then ?_
          | with_reducible refine x_blockN ?_
          | ((with_reducible apply c_true); rfl))
        refine x_round ⟨t + 1, ⟨by omega, by omega⟩, by omega, ?_⟩
        refine weak_to (n := 1) rfl ⟨.inr ⟨rfl, rfl⟩, .inr ⟨rfl, rfl⟩, .inl rfl, .inl rfl, .inl rfl, .inr ⟨rfl, rfl⟩, .inr ⟨?_, rfl⟩, trivial⟩ rfl (dsR_kept ds)
        rw [hp1]; rfl
      · have hq2 : n ≤ 2 ^ t := by omega
        by_cases hneg : I < 0
        · have hI := Inclusion_bad (G := G) ds c I (.inl (by omega))
          rw [hn] at hI
          have hC := Consistency_bad (G := G) ds c I (.inl (by omega))
          rw [hn] at hC
          by_cases hn2 : n < 2
          · have hk0 : splitF (n : Int) = 0 := by unfold splitF; rw [if_pos (by omega)]
            rw [hk0] at hS
            generalize hq : 2 ^ t = q at *
            refine c_hole 2 (H' := [dsR ds, hole, hole]) rfl ?_
            repeat (first
              | ((with_reducible apply r_callN (e := [some (0, 0)]) (nid := 0) hI); rfl; rfl; rfl; rfl; rfl; rfl; rfl; refine ⟨⟨⟨rfl, rfl, by omega, by omega, by omega⟩, rfl, trivial⟩, ⟨emb_ro rfl rfl (by show 0 + (dsC _).length ≤ (dsC _).length; omega) (dsC_whole _), trivial⟩, rfl, rfl, rfl⟩; exact (show _ = Value.tuple #[nilS, .int .i64 20] by kernel_rfl); exact (show _ = [dsR ds, hole, hole] by kernel_rfl))
              | ((with_reducible apply r_callN (e := [some (0, 0)]) (nid := 0) hC); rfl; rfl; rfl; rfl; rfl; rfl; rfl; refine ⟨⟨⟨rfl, rfl, by omega, by omega, by omega⟩, rfl, trivial⟩, ⟨emb_ro rfl rfl (by show 0 + (dsC _).length ≤ (dsC _).length; omega) (dsC_whole _), trivial⟩, rfl, rfl, rfl⟩; exact (show _ = Value.tuple #[nilS, .int .i64 21] by kernel_rfl); exact (show _ = [dsR ds, hole, hole] by kernel_rfl))
              | ((with_reducible apply r_move); rfl; rfl; (first
              | exact (rfl : _ = Value.int _ _)
              | exact (rfl : _ = Value.bool _)
              | exact (rfl : _ = Value.slice _ _ _)
              | exact (rfl : _ = Value.tuple _)))
              | ((with_reducible apply r_assign); rfl; rfl; (first
              | exact (rfl : _ = Value.int _ _)
              | exact (rfl : _ = Value.bool _)
              | exact (rfl : _ = Value.slice _ _ _)))
              | ((with_reducible apply r_bin); rfl; rfl; (exact (rfl : _ = Value.int _ _)); (exact (rfl : _ = Value.int _ _)); (first
              | with_reducible exact lss_f (by omega)
              | with_reducible exact eql_t (by omega)
              | with_reducible exact eql_f (by omega)))
              | ((with_reducible apply r_pick); rfl; rfl; (exact (rfl : _ = some (Value.bool _))))
              | ((with_reducible apply r_len); rfl; rfl; (exact (rfl : _ = Value.slice _ _ _)); (exact (rfl : _ = some (Value.int _ _))))
              | ((with_reducible apply r_extract); rfl; rfl; rfl; (first
              | exact (rfl : _ = some (Value.int _ _))
              | exact (rfl : _ = some (Value.slice _ _ _))))
              | ((with_reducible apply r_skip); rfl; rfl)
              | ((with_reducible apply r_callP (hS)); rfl; rfl; rfl; rfl; rfl; (exact (rfl : _ = Value.int _ _)))
              | ((with_reducible apply r_callP (hT)); rfl; rfl; rfl; rfl; rfl; (exact (rfl : _ = Value.bool _)))
              | with_reducible refine r_doneN ?_
              | with_reducible refine c_reg ?_
              | with_reducible refine c_seq ?_
              | with_reducible refine c_skip ?_
              | with_reducible refine c_exit ?_
              | with_reducible refine c_ret ?_
              | with_reducible refine x_then ?_
              | with_reducible refine x_thenE ?_
              | with_reducible refine x_thenR ?_
              | with_reducible refine x_leaveE ?_
              | ((with_reducible apply c_true); rfl)
              | ((with_reducible apply c_false); rfl)
              | ((with_reducible apply x_block); rfl))
            refine x_end ?_
            exact end_same (v := .bool true) rfl rfl rfl (dsR_kept ds) rfl
          · obtain ⟨s1, s2, s3⟩ := splitF_pos (n := n) (by omega)
            rw [s3] at hS
            have hkk : splitN n = (splitF (n : Int)).toNat := rfl
            have h2k := (splitN_half (n := n) (t := 7) (by omega) (by omega)).2.2
            rw [hkk] at h2k
            have hx := rootI_two kk (ds := ds) (by omega) (by omega)
            rw [hn, hkk] at hx
            generalize (splitF (n : Int)).toNat = k at *
            have e1 : ds.take k = sub ds 0 k := by simp [sub]
            have e2 : ds.drop k = sub ds k (n - k) := by unfold sub; rw [List.take_of_length_le (by simp; omega)]
            rw [e1, e2] at hx
            have hR := Root_ok' (G := G) kk hG hG1 ds (c := c) hn (by omega) (by omega) hx
            have hRa := Root_ok' (G := G) kk hG hG1 (sub ds 0 k) (c := c) (sub_len (by omega)) (by omega) (by omega) rfl
            have hRb := Root_ok' (G := G) kk hG hG1 (sub ds k (n - k)) (c := c - k) (sub_len (by omega)) (by omega) (by omega) rfl
            have hK := Knot_ok (G := G) kk hG (rootI kk (sub ds 0 k)) (rootI kk (sub ds k (n - k)))
            generalize knotF kk (rootI kk (sub ds 0 k)) (rootI kk (sub ds k (n - k))) = y at *
            generalize rootI kk (sub ds 0 k) = a at *
            generalize rootI kk (sub ds k (n - k)) = b at *
            generalize hq : 2 ^ t = q at *
            refine c_hole 2 (H' := [dsR ds, hole, hole]) rfl ?_
            repeat (first
              | ((with_reducible apply r_callN (e := [some (0, 0)]) (nid := 0) hI); rfl; rfl; rfl; rfl; rfl; rfl; rfl; refine ⟨⟨⟨rfl, rfl, by omega, by omega, by omega⟩, rfl, trivial⟩, ⟨emb_ro rfl rfl (by show 0 + (dsC _).length ≤ (dsC _).length; omega) (dsC_whole _), trivial⟩, rfl, rfl, rfl⟩; exact (show _ = Value.tuple #[nilS, .int .i64 20] by kernel_rfl); exact (show _ = [dsR ds, hole, hole] by kernel_rfl))
              | ((with_reducible apply r_callN (e := [some (0, 0)]) (nid := 0) hC); rfl; rfl; rfl; rfl; rfl; rfl; rfl; refine ⟨⟨⟨rfl, rfl, by omega, by omega, by omega⟩, rfl, trivial⟩, ⟨emb_ro rfl rfl (by show 0 + (dsC _).length ≤ (dsC _).length; omega) (dsC_whole _), trivial⟩, rfl, rfl, rfl⟩; exact (show _ = Value.tuple #[nilS, .int .i64 21] by kernel_rfl); exact (show _ = [dsR ds, hole, hole] by kernel_rfl))
              | ((with_reducible apply r_callN (e := [some (0, 0)]) (nid := 0) hR); rfl; rfl; rfl; rfl; rfl; rfl; rfl; refine ⟨⟨⟨rfl, rfl, by omega, by omega, by omega⟩, trivial⟩, ⟨emb_ro rfl rfl (by show 0 + (dsC _).length ≤ (dsC _).length; omega) (dsC_whole _), trivial⟩, rfl, rfl, rfl⟩; exact (rfl : _ = Value.agg _); exact (rfl : _ = _ :: _))
              | ((with_reducible apply r_callN (e := [some (0, 0)]) (nid := 0) hRa); rfl; rfl; rfl; rfl; rfl; rfl; rfl; refine ⟨⟨⟨rfl, rfl, by omega, by omega, by omega⟩, trivial⟩, ⟨emb_sub rfl (.inl rfl) (by omega) rfl, trivial⟩, rfl, rfl, rfl⟩; exact (rfl : _ = Value.agg _); exact (rfl : _ = _ :: _))
              | ((with_reducible apply r_callN (e := [some (0, k * 32)]) (nid := 0) hRb); rfl; rfl; rfl; rfl; rfl; rfl; rfl; refine ⟨⟨⟨rfl, rfl, by omega, by omega, by omega⟩, trivial⟩, ⟨emb_sub rfl (.inl rfl) (by omega) rfl, trivial⟩, rfl, rfl, rfl⟩; exact (rfl : _ = Value.agg _); exact (rfl : _ = _ :: _))
              | ((with_reducible apply r_slice); rfl; rfl; exact (rfl : _ = Value.slice (some ⟨_, _, _⟩) _ _); rfl; rfl; first | exact slice_hi (h := k) rfl rfl rfl (by omega) rfl | exact slice_lo (l := k) (sz := 32) (j := k * 32) (m := n - k) (c' := c - k) rfl rfl rfl rfl (by omega) (by omega) rfl (by omega) (by omega) (by omega))
              | ((with_reducible apply r_bin); rfl; rfl; exact (rfl : _ = Value.agg _); exact (rfl : _ = Value.agg _); refine Eq.trans (eql_dg (a := y) (b := y) (by kernel_rfl) rfl rfl rfl) ?_; rw [sameB_refl])
              | ((with_reducible apply r_move); rfl; rfl; (first
              | exact (rfl : _ = Value.int _ _)
              | exact (rfl : _ = Value.bool _)
              | exact (rfl : _ = Value.slice _ _ _)
              | exact (rfl : _ = Value.tuple _)))
              | ((with_reducible apply r_assign); rfl; rfl; (first
              | exact (rfl : _ = Value.int _ _)
              | exact (rfl : _ = Value.bool _)
              | exact (rfl : _ = Value.slice _ _ _)))
              | ((with_reducible apply r_bin); rfl; rfl; (exact (rfl : _ = Value.int _ _)); (exact (rfl : _ = Value.int _ _)); (first
              | with_reducible exact lss_t (by omega)
              | with_reducible exact lss_f (by omega)
              | with_reducible exact leq_t (by omega)
              | with_reducible exact eql_f (by omega)
              | with_reducible exact bin_mul rfl (by omega) (by omega)))
              | ((with_reducible apply r_pick); rfl; rfl; (exact (rfl : _ = some (Value.bool _))))
              | ((with_reducible apply r_len); rfl; rfl; (exact (rfl : _ = Value.slice _ _ _)); (exact (rfl : _ = some (Value.int _ _))))
              | ((with_reducible apply r_extract); rfl; rfl; rfl; (first
              | exact (rfl : _ = some (Value.int _ _))
              | exact (rfl : _ = some (Value.slice _ _ _))))
              | ((with_reducible apply r_skip); rfl; rfl)
              | ((with_reducible apply r_callP (hS)); rfl; rfl; rfl; rfl; rfl; (exact (rfl : _ = Value.int _ _)))
              | ((with_reducible apply r_callP (hT)); rfl; rfl; rfl; rfl; rfl; (exact (rfl : _ = Value.bool _)))
              | ((with_reducible apply r_callP (hK)); rfl; rfl; rfl; rfl; rfl; (exact (rfl : _ = Value.agg _)))
              | with_reducible refine r_doneN ?_
              | with_reducible refine c_reg ?_
              | with_reducible refine c_seq ?_
              | with_reducible refine c_skip ?_
              | with_reducible refine c_exit ?_
              | with_reducible refine c_ret ?_
              | with_reducible refine x_then ?_
              | with_reducible refine x_thenE ?_
              | with_reducible refine x_leaveE ?_
              | (with_reducible refine r_doneD (by kernel_rfl) ?_)
              | (with_reducible refine c_draw (by kernel_rfl) ?_)
              | ((with_reducible apply c_false); rfl)
              | ((with_reducible apply x_block); rfl))
            refine x_end ?_
            exact end_same (v := .bool true) rfl rfl rfl (dsR_kept ds) rfl
        · by_cases hbig : (n : Int) < I
          · have hI := Inclusion_bad (G := G) ds c I (.inr (by omega))
            rw [hn] at hI
            have hC := Consistency_bad (G := G) ds c I (.inr (by omega))
            rw [hn] at hC
            by_cases hn2 : n < 2
            · have hk0 : splitF (n : Int) = 0 := by unfold splitF; rw [if_pos (by omega)]
              rw [hk0] at hS
              generalize hq : 2 ^ t = q at *
              refine c_hole 2 (H' := [dsR ds, hole, hole]) rfl ?_
              repeat (first
                | ((with_reducible apply r_callN (e := [some (0, 0)]) (nid := 0) hI); rfl; rfl; rfl; rfl; rfl; rfl; rfl; refine ⟨⟨⟨rfl, rfl, by omega, by omega, by omega⟩, rfl, trivial⟩, ⟨emb_ro rfl rfl (by show 0 + (dsC _).length ≤ (dsC _).length; omega) (dsC_whole _), trivial⟩, rfl, rfl, rfl⟩; exact (show _ = Value.tuple #[nilS, .int .i64 20] by kernel_rfl); exact (show _ = [dsR ds, hole, hole] by kernel_rfl))
                | ((with_reducible apply r_callN (e := [some (0, 0)]) (nid := 0) hC); rfl; rfl; rfl; rfl; rfl; rfl; rfl; refine ⟨⟨⟨rfl, rfl, by omega, by omega, by omega⟩, rfl, trivial⟩, ⟨emb_ro rfl rfl (by show 0 + (dsC _).length ≤ (dsC _).length; omega) (dsC_whole _), trivial⟩, rfl, rfl, rfl⟩; exact (show _ = Value.tuple #[nilS, .int .i64 21] by kernel_rfl); exact (show _ = [dsR ds, hole, hole] by kernel_rfl))
                | ((with_reducible apply r_move); rfl; rfl; (first
                | exact (rfl : _ = Value.int _ _)
                | exact (rfl : _ = Value.bool _)
                | exact (rfl : _ = Value.slice _ _ _)
                | exact (rfl : _ = Value.tuple _)))
                | ((with_reducible apply r_assign); rfl; rfl; (first
                | exact (rfl : _ = Value.int _ _)
                | exact (rfl : _ = Value.bool _)
                | exact (rfl : _ = Value.slice _ _ _)))
                | ((with_reducible apply r_bin); rfl; rfl; (exact (rfl : _ = Value.int _ _)); (exact (rfl : _ = Value.int _ _)); (first
                | with_reducible exact lss_f (by omega)
                | with_reducible exact eql_t (by omega)
                | with_reducible exact eql_f (by omega)))
                | ((with_reducible apply r_pick); rfl; rfl; (exact (rfl : _ = some (Value.bool _))))
                | ((with_reducible apply r_len); rfl; rfl; (exact (rfl : _ = Value.slice _ _ _)); (exact (rfl : _ = some (Value.int _ _))))
                | ((with_reducible apply r_extract); rfl; rfl; rfl; (first
                | exact (rfl : _ = some (Value.int _ _))
                | exact (rfl : _ = some (Value.slice _ _ _))))
                | ((with_reducible apply r_skip); rfl; rfl)
                | ((with_reducible apply r_callP (hS)); rfl; rfl; rfl; rfl; rfl; (exact (rfl : _ = Value.int _ _)))
                | ((with_reducible apply r_callP (hT)); rfl; rfl; rfl; rfl; rfl; (exact (rfl : _ = Value.bool _)))
                | with_reducible refine r_doneN ?_
                | with_reducible refine c_reg ?_
                | with_reducible refine c_seq ?_
                | with_reducible refine c_skip ?_
                | with_reducible refine c_exit ?_
                | with_reducible refine c_ret ?_
                | with_reducible refine x_then ?_
                | with_reducible refine x_thenE ?_
                | with_reducible refine x_thenR ?_
                | with_reducible refine x_leaveE ?_
                | ((with_reducible apply c_true); rfl)
                | ((with_reducible apply c_false); rfl)
                | ((with_reducible apply x_block); rfl))
              refine x_end ?_
              exact end_same (v := .bool true) rfl rfl rfl (dsR_kept ds) rfl
            · obtain ⟨s1, s2, s3⟩ := splitF_pos (n := n) (by omega)
              rw [s3] at hS
              have hkk : splitN n = (splitF (n : Int)).toNat := rfl
              have h2k := (splitN_half (n := n) (t := 7) (by omega) (by omega)).2.2
              rw [hkk] at h2k
              have hx := rootI_two kk (ds := ds) (by omega) (by omega)
              rw [hn, hkk] at hx
              generalize (splitF (n : Int)).toNat = k at *
              have e1 : ds.take k = sub ds 0 k := by simp [sub]
              have e2 : ds.drop k = sub ds k (n - k) := by unfold sub; rw [List.take_of_length_le (by simp; omega)]
              rw [e1, e2] at hx
              have hR := Root_ok' (G := G) kk hG hG1 ds (c := c) hn (by omega) (by omega) hx
              have hRa := Root_ok' (G := G) kk hG hG1 (sub ds 0 k) (c := c) (sub_len (by omega)) (by omega) (by omega) rfl
              have hRb := Root_ok' (G := G) kk hG hG1 (sub ds k (n - k)) (c := c - k) (sub_len (by omega)) (by omega) (by omega) rfl
              have hK := Knot_ok (G := G) kk hG (rootI kk (sub ds 0 k)) (rootI kk (sub ds k (n - k)))
              generalize knotF kk (rootI kk (sub ds 0 k)) (rootI kk (sub ds k (n - k))) = y at *
              generalize rootI kk (sub ds 0 k) = a at *
              generalize rootI kk (sub ds k (n - k)) = b at *
              generalize hq : 2 ^ t = q at *
              refine c_hole 2 (H' := [dsR ds, hole, hole]) rfl ?_
              repeat (first
                | ((with_reducible apply r_callN (e := [some (0, 0)]) (nid := 0) hI); rfl; rfl; rfl; rfl; rfl; rfl; rfl; refine ⟨⟨⟨rfl, rfl, by omega, by omega, by omega⟩, rfl, trivial⟩, ⟨emb_ro rfl rfl (by show 0 + (dsC _).length ≤ (dsC _).length; omega) (dsC_whole _), trivial⟩, rfl, rfl, rfl⟩; exact (show _ = Value.tuple #[nilS, .int .i64 20] by kernel_rfl); exact (show _ = [dsR ds, hole, hole] by kernel_rfl))
                | ((with_reducible apply r_callN (e := [some (0, 0)]) (nid := 0) hC); rfl; rfl; rfl; rfl; rfl; rfl; rfl; refine ⟨⟨⟨rfl, rfl, by omega, by omega, by omega⟩, rfl, trivial⟩, ⟨emb_ro rfl rfl (by show 0 + (dsC _).length ≤ (dsC _).length; omega) (dsC_whole _), trivial⟩, rfl, rfl, rfl⟩; exact (show _ = Value.tuple #[nilS, .int .i64 21] by kernel_rfl); exact (show _ = [dsR ds, hole, hole] by kernel_rfl))
                | ((with_reducible apply r_callN (e := [some (0, 0)]) (nid := 0) hR); rfl; rfl; rfl; rfl; rfl; rfl; rfl; refine ⟨⟨⟨rfl, rfl, by omega, by omega, by omega⟩, trivial⟩, ⟨emb_ro rfl rfl (by show 0 + (dsC _).length ≤ (dsC _).length; omega) (dsC_whole _), trivial⟩, rfl, rfl, rfl⟩; exact (rfl : _ = Value.agg _); exact (rfl : _ = _ :: _))
                | ((with_reducible apply r_callN (e := [some (0, 0)]) (nid := 0) hRa); rfl; rfl; rfl; rfl; rfl; rfl; rfl; refine ⟨⟨⟨rfl, rfl, by omega, by omega, by omega⟩, trivial⟩, ⟨emb_sub rfl (.inl rfl) (by omega) rfl, trivial⟩, rfl, rfl, rfl⟩; exact (rfl : _ = Value.agg _); exact (rfl : _ = _ :: _))
                | ((with_reducible apply r_callN (e := [some (0, k * 32)]) (nid := 0) hRb); rfl; rfl; rfl; rfl; rfl; rfl; rfl; refine ⟨⟨⟨rfl, rfl, by omega, by omega, by omega⟩, trivial⟩, ⟨emb_sub rfl (.inl rfl) (by omega) rfl, trivial⟩, rfl, rfl, rfl⟩; exact (rfl : _ = Value.agg _); exact (rfl : _ = _ :: _))
                | ((with_reducible apply r_slice); rfl; rfl; exact (rfl : _ = Value.slice (some ⟨_, _, _⟩) _ _); rfl; rfl; first | exact slice_hi (h := k) rfl rfl rfl (by omega) rfl | exact slice_lo (l := k) (sz := 32) (j := k * 32) (m := n - k) (c' := c - k) rfl rfl rfl rfl (by omega) (by omega) rfl (by omega) (by omega) (by omega))
                | ((with_reducible apply r_bin); rfl; rfl; exact (rfl : _ = Value.agg _); exact (rfl : _ = Value.agg _); refine Eq.trans (eql_dg (a := y) (b := y) (by kernel_rfl) rfl rfl rfl) ?_; rw [sameB_refl])
                | ((with_reducible apply r_move); rfl; rfl; (first
                | exact (rfl : _ = Value.int _ _)
                | exact (rfl : _ = Value.bool _)
                | exact (rfl : _ = Value.slice _ _ _)
                | exact (rfl : _ = Value.tuple _)))
                | ((with_reducible apply r_assign); rfl; rfl; (first
                | exact (rfl : _ = Value.int _ _)
                | exact (rfl : _ = Value.bool _)
                | exact (rfl : _ = Value.slice _ _ _)))
                | ((with_reducible apply r_bin); rfl; rfl; (exact (rfl : _ = Value.int _ _)); (exact (rfl : _ = Value.int _ _)); (first
                | with_reducible exact lss_t (by omega)
                | with_reducible exact lss_f (by omega)
                | with_reducible exact leq_t (by omega)
                | with_reducible exact eql_f (by omega)
                | with_reducible exact bin_mul rfl (by omega) (by omega)))
                | ((with_reducible apply r_pick); rfl; rfl; (exact (rfl : _ = some (Value.bool _))))
                | ((with_reducible apply r_len); rfl; rfl; (exact (rfl : _ = Value.slice _ _ _)); (exact (rfl : _ = some (Value.int _ _))))
                | ((with_reducible apply r_extract); rfl; rfl; rfl; (first
                | exact (rfl : _ = some (Value.int _ _))
                | exact (rfl : _ = some (Value.slice _ _ _))))
                | ((with_reducible apply r_skip); rfl; rfl)
                | ((with_reducible apply r_callP (hS)); rfl; rfl; rfl; rfl; rfl; (exact (rfl : _ = Value.int _ _)))
                | ((with_reducible apply r_callP (hT)); rfl; rfl; rfl; rfl; rfl; (exact (rfl : _ = Value.bool _)))
                | ((with_reducible apply r_callP (hK)); rfl; rfl; rfl; rfl; rfl; (exact (rfl : _ = Value.agg _)))
                | with_reducible refine r_doneN ?_
                | with_reducible refine c_reg ?_
                | with_reducible refine c_seq ?_
                | with_reducible refine c_skip ?_
                | with_reducible refine c_exit ?_
                | with_reducible refine c_ret ?_
                | with_reducible refine x_then ?_
                | with_reducible refine x_thenE ?_
                | with_reducible refine x_leaveE ?_
                | (with_reducible refine r_doneD (by kernel_rfl) ?_)
                | (with_reducible refine c_draw (by kernel_rfl) ?_)
                | ((with_reducible apply c_false); rfl)
                | ((with_reducible apply x_block); rfl))
              refine x_end ?_
              exact end_same (v := .bool true) rfl rfl rfl (dsR_kept ds) rfl
          · obtain ⟨i, rfl⟩ : ∃ j : Nat, I = j := ⟨I.toNat, by omega⟩
            by_cases hz : i = 0
            · subst hz
              by_cases hn0 : n = 0
              · have hI := Inclusion_bad (G := G) ds c 0 (.inr (by omega))
                rw [hn] at hI
                have hC := Consistency_zero (G := G) ds c
                rw [hn] at hC
                by_cases hn2 : n < 2
                · have hk0 : splitF (n : Int) = 0 := by unfold splitF; rw [if_pos (by omega)]
                  rw [hk0] at hS
                  generalize hq : 2 ^ t = q at *
                  refine c_hole 2 (H' := [dsR ds, hole, hole]) rfl ?_
                  repeat (first
                    | ((with_reducible apply r_callN (e := [some (0, 0)]) (nid := 0) hI); rfl; rfl; rfl; rfl; rfl; rfl; rfl; refine ⟨⟨⟨rfl, rfl, by omega, by omega, by omega⟩, rfl, trivial⟩, ⟨emb_ro rfl rfl (by show 0 + (dsC _).length ≤ (dsC _).length; omega) (dsC_whole _), trivial⟩, rfl, rfl, rfl⟩; exact (show _ = Value.tuple #[nilS, .int .i64 20] by kernel_rfl); exact (show _ = [dsR ds, hole, hole] by kernel_rfl))
                    | ((with_reducible apply r_callN (e := [some (0, 0)]) (nid := 0) hC); rfl; rfl; rfl; rfl; rfl; rfl; rfl; refine ⟨⟨⟨rfl, rfl, by omega, by omega, by omega⟩, rfl, trivial⟩, ⟨emb_ro rfl rfl (by show 0 + (dsC _).length ≤ (dsC _).length; omega) (dsC_whole _), trivial⟩, rfl, rfl, rfl⟩; exact (show _ = Value.tuple #[nilS, .int .i64 0] by kernel_rfl); exact (show _ = [dsR ds, hole, hole] by kernel_rfl))
                    | ((with_reducible apply r_move); rfl; rfl; (first
                    | exact (rfl : _ = Value.int _ _)
                    | exact (rfl : _ = Value.bool _)
                    | exact (rfl : _ = Value.slice _ _ _)
                    | exact (rfl : _ = Value.tuple _)))
                    | ((with_reducible apply r_assign); rfl; rfl; (first
                    | exact (rfl : _ = Value.int _ _)
                    | exact (rfl : _ = Value.bool _)
                    | exact (rfl : _ = Value.slice _ _ _)))
                    | ((with_reducible apply r_bin); rfl; rfl; (exact (rfl : _ = Value.int _ _)); (exact (rfl : _ = Value.int _ _)); (first
                    | with_reducible exact lss_f (by omega)
                    | with_reducible exact gtr_f (by omega)
                    | with_reducible exact eql_t (by omega)
                    | with_reducible exact eql_f (by omega)
                    | with_reducible exact bin_add rfl (by omega) (by omega)))
                    | ((with_reducible apply r_pick); rfl; rfl; (exact (rfl : _ = some (Value.bool _))))
                    | ((with_reducible apply r_len); rfl; rfl; (exact (rfl : _ = Value.slice _ _ _)); (exact (rfl : _ = some (Value.int _ _))))
                    | ((with_reducible apply r_extract); rfl; rfl; rfl; (first
                    | exact (rfl : _ = some (Value.int _ _))
                    | exact (rfl : _ = some (Value.slice _ _ _))))
                    | ((with_reducible apply r_skip); rfl; rfl)
                    | ((with_reducible apply r_callP (hS)); rfl; rfl; rfl; rfl; rfl; (exact (rfl : _ = Value.int _ _)))
                    | ((with_reducible apply r_callP (hT)); rfl; rfl; rfl; rfl; rfl; (exact (rfl : _ = Value.bool _)))
                    | with_reducible refine r_doneN ?_
                    | with_reducible refine c_reg ?_
                    | with_reducible refine c_seq ?_
                    | with_reducible refine c_skip ?_
                    | with_reducible refine c_exit ?_
                    | with_reducible refine c_ret ?_
                    | with_reducible refine x_then ?_
                    | with_reducible refine x_thenE ?_
                    | with_reducible refine x_thenR ?_
                    | with_reducible refine x_leaveE ?_
                    | ((with_reducible apply c_true); rfl)
                    | ((with_reducible apply c_false); rfl)
                    | ((with_reducible apply x_block); rfl))
                  refine x_end ?_
                  exact end_same (v := .bool true) rfl rfl rfl (dsR_kept ds) rfl
                · omega
              · have hI := Incl_ok (G := G) kk hG hG1 ds c 0 hn (by omega) hc (by omega) rfl
                have hPl := inclP_short kk t ds 0 (by omega)
                generalize inclP kk ds 0 = P at *
                have hC := Consistency_zero (G := G) ds c
                rw [hn] at hC
                by_cases hn2 : n < 2
                · have hk0 : splitF (n : Int) = 0 := by unfold splitF; rw [if_pos (by omega)]
                  rw [hk0] at hS
                  generalize hq : 2 ^ t = q at *
                  refine c_hole 2 (H' := [dsR ds, hole, hole]) rfl ?_
                  repeat (first
                    | ((with_reducible apply r_callN (e := [some (0, 0)]) (nid := 1) hI); rfl; rfl; rfl; rfl; rfl; rfl; rfl; refine ⟨⟨⟨rfl, rfl, by omega, by omega, by omega⟩, rfl, trivial⟩, ⟨emb_ro rfl rfl (by show 0 + (dsC _).length ≤ (dsC _).length; omega) (dsC_whole _), trivial⟩, rfl, rfl, rfl⟩; exact (show _ = Value.tuple #[slv 1 0 P.length P.length, .int .i64 0] by kernel_rfl); exact (show _ = [dsR ds, dsB P, hole] by kernel_rfl))
                    | ((with_reducible apply r_callN (e := [some (0, 0)]) (nid := 0) hC); rfl; rfl; rfl; rfl; rfl; rfl; rfl; refine ⟨⟨⟨rfl, rfl, by omega, by omega, by omega⟩, rfl, trivial⟩, ⟨emb_ro rfl rfl (by show 0 + (dsC _).length ≤ (dsC _).length; omega) (dsC_whole _), trivial⟩, rfl, rfl, rfl⟩; exact (show _ = Value.tuple #[nilS, .int .i64 0] by kernel_rfl); exact (show _ = [dsR ds, dsB P, hole] by kernel_rfl))
                    | ((with_reducible apply r_move); rfl; rfl; (first
                    | exact (rfl : _ = Value.int _ _)
                    | exact (rfl : _ = Value.bool _)
                    | exact (rfl : _ = Value.slice _ _ _)
                    | exact (rfl : _ = Value.tuple _)))
                    | ((with_reducible apply r_assign); rfl; rfl; (first
                    | exact (rfl : _ = Value.int _ _)
                    | exact (rfl : _ = Value.bool _)
                    | exact (rfl : _ = Value.slice _ _ _)))
                    | ((with_reducible apply r_bin); rfl; rfl; (exact (rfl : _ = Value.int _ _)); (exact (rfl : _ = Value.int _ _)); (first
                    | with_reducible exact lss_f (by omega)
                    | with_reducible exact gtr_f (by omega)
                    | with_reducible exact eql_t (by omega)
                    | with_reducible exact bin_add rfl (by omega) (by omega)))
                    | ((with_reducible apply r_pick); rfl; rfl; (exact (rfl : _ = some (Value.bool _))))
                    | ((with_reducible apply r_len); rfl; rfl; (exact (rfl : _ = Value.slice _ _ _)); (exact (rfl : _ = some (Value.int _ _))))
                    | ((with_reducible apply r_extract); rfl; rfl; rfl; (first
                    | exact (rfl : _ = some (Value.int _ _))
                    | exact (rfl : _ = some (Value.slice _ _ _))))
                    | ((with_reducible apply r_callP (hS)); rfl; rfl; rfl; rfl; rfl; (exact (rfl : _ = Value.int _ _)))
                    | ((with_reducible apply r_callP (hT)); rfl; rfl; rfl; rfl; rfl; (exact (rfl : _ = Value.bool _)))
                    | with_reducible refine r_doneN ?_
                    | with_reducible refine c_reg ?_
                    | with_reducible refine c_seq ?_
                    | with_reducible refine c_skip ?_
                    | with_reducible refine c_exit ?_
                    | with_reducible refine c_ret ?_
                    | with_reducible refine x_then ?_
                    | with_reducible refine x_thenE ?_
                    | with_reducible refine x_thenR ?_
                    | with_reducible refine x_leaveE ?_
                    | ((with_reducible apply c_true); rfl)
                    | ((with_reducible apply c_false); rfl)
                    | ((with_reducible apply x_block); rfl))
                  refine x_end ?_
                  exact end_same (v := .bool true) rfl rfl rfl (dsR_kept ds) rfl
                · obtain ⟨s1, s2, s3⟩ := splitF_pos (n := n) (by omega)
                  rw [s3] at hS
                  have hkk : splitN n = (splitF (n : Int)).toNat := rfl
                  have h2k := (splitN_half (n := n) (t := 7) (by omega) (by omega)).2.2
                  rw [hkk] at h2k
                  have hx := rootI_two kk (ds := ds) (by omega) (by omega)
                  rw [hn, hkk] at hx
                  generalize (splitF (n : Int)).toNat = k at *
                  have e1 : ds.take k = sub ds 0 k := by simp [sub]
                  have e2 : ds.drop k = sub ds k (n - k) := by unfold sub; rw [List.take_of_length_le (by simp; omega)]
                  rw [e1, e2] at hx
                  have hR := Root_ok' (G := G) kk hG hG1 ds (c := c) hn (by omega) (by omega) hx
                  have hRa := Root_ok' (G := G) kk hG hG1 (sub ds 0 k) (c := c) (sub_len (by omega)) (by omega) (by omega) rfl
                  have hRb := Root_ok' (G := G) kk hG hG1 (sub ds k (n - k)) (c := c - k) (sub_len (by omega)) (by omega) (by omega) rfl
                  have hK := Knot_ok (G := G) kk hG (rootI kk (sub ds 0 k)) (rootI kk (sub ds k (n - k)))
                  generalize knotF kk (rootI kk (sub ds 0 k)) (rootI kk (sub ds k (n - k))) = y at *
                  generalize rootI kk (sub ds 0 k) = a at *
                  generalize rootI kk (sub ds k (n - k)) = b at *
                  generalize hq : 2 ^ t = q at *
                  refine c_hole 2 (H' := [dsR ds, hole, hole]) rfl ?_
                  repeat (first
                    | ((with_reducible apply r_callN (e := [some (0, 0)]) (nid := 1) hI); rfl; rfl; rfl; rfl; rfl; rfl; rfl; refine ⟨⟨⟨rfl, rfl, by omega, by omega, by omega⟩, rfl, trivial⟩, ⟨emb_ro rfl rfl (by show 0 + (dsC _).length ≤ (dsC _).length; omega) (dsC_whole _), trivial⟩, rfl, rfl, rfl⟩; exact (show _ = Value.tuple #[slv 1 0 P.length P.length, .int .i64 0] by kernel_rfl); exact (show _ = [dsR ds, dsB P, hole] by kernel_rfl))
                    | ((with_reducible apply r_callN (e := [some (0, 0)]) (nid := 0) hC); rfl; rfl; rfl; rfl; rfl; rfl; rfl; refine ⟨⟨⟨rfl, rfl, by omega, by omega, by omega⟩, rfl, trivial⟩, ⟨emb_ro rfl rfl (by show 0 + (dsC _).length ≤ (dsC _).length; omega) (dsC_whole _), trivial⟩, rfl, rfl, rfl⟩; exact (show _ = Value.tuple #[nilS, .int .i64 0] by kernel_rfl); exact (show _ = [dsR ds, dsB P, hole] by kernel_rfl))
                    | ((with_reducible apply r_callN (e := [some (0, 0)]) (nid := 0) hR); rfl; rfl; rfl; rfl; rfl; rfl; rfl; refine ⟨⟨⟨rfl, rfl, by omega, by omega, by omega⟩, trivial⟩, ⟨emb_ro rfl rfl (by show 0 + (dsC _).length ≤ (dsC _).length; omega) (dsC_whole _), trivial⟩, rfl, rfl, rfl⟩; exact (rfl : _ = Value.agg _); exact (rfl : _ = _ :: _))
                    | ((with_reducible apply r_callN (e := [some (0, 0)]) (nid := 0) hRa); rfl; rfl; rfl; rfl; rfl; rfl; rfl; refine ⟨⟨⟨rfl, rfl, by omega, by omega, by omega⟩, trivial⟩, ⟨emb_sub rfl (.inl rfl) (by omega) rfl, trivial⟩, rfl, rfl, rfl⟩; exact (rfl : _ = Value.agg _); exact (rfl : _ = _ :: _))
                    | ((with_reducible apply r_callN (e := [some (0, k * 32)]) (nid := 0) hRb); rfl; rfl; rfl; rfl; rfl; rfl; rfl; refine ⟨⟨⟨rfl, rfl, by omega, by omega, by omega⟩, trivial⟩, ⟨emb_sub rfl (.inl rfl) (by omega) rfl, trivial⟩, rfl, rfl, rfl⟩; exact (rfl : _ = Value.agg _); exact (rfl : _ = _ :: _))
                    | ((with_reducible apply r_slice); rfl; rfl; exact (rfl : _ = Value.slice (some ⟨_, _, _⟩) _ _); rfl; rfl; first | exact slice_hi (h := k) rfl rfl rfl (by omega) rfl | exact slice_lo (l := k) (sz := 32) (j := k * 32) (m := n - k) (c' := c - k) rfl rfl rfl rfl (by omega) (by omega) rfl (by omega) (by omega) (by omega))
                    | ((with_reducible apply r_bin); rfl; rfl; exact (rfl : _ = Value.agg _); exact (rfl : _ = Value.agg _); refine Eq.trans (eql_dg (a := y) (b := y) (by kernel_rfl) rfl rfl rfl) ?_; rw [sameB_refl])
                    | ((with_reducible apply r_move); rfl; rfl; (first
                    | exact (rfl : _ = Value.int _ _)
                    | exact (rfl : _ = Value.bool _)
                    | exact (rfl : _ = Value.slice _ _ _)
                    | exact (rfl : _ = Value.tuple _)))
                    | ((with_reducible apply r_assign); rfl; rfl; (first
                    | exact (rfl : _ = Value.int _ _)
                    | exact (rfl : _ = Value.bool _)
                    | exact (rfl : _ = Value.slice _ _ _)))
                    | ((with_reducible apply r_bin); rfl; rfl; (exact (rfl : _ = Value.int _ _)); (exact (rfl : _ = Value.int _ _)); (first
                    | with_reducible exact lss_t (by omega)
                    | with_reducible exact lss_f (by omega)
                    | with_reducible exact leq_t (by omega)
                    | with_reducible exact gtr_f (by omega)
                    | with_reducible exact eql_t (by omega)
                    | with_reducible exact eql_f (by omega)
                    | with_reducible exact bin_add rfl (by omega) (by omega)
                    | with_reducible exact bin_mul rfl (by omega) (by omega)))
                    | ((with_reducible apply r_pick); rfl; rfl; (exact (rfl : _ = some (Value.bool _))))
                    | ((with_reducible apply r_len); rfl; rfl; (exact (rfl : _ = Value.slice _ _ _)); (exact (rfl : _ = some (Value.int _ _))))
                    | ((with_reducible apply r_extract); rfl; rfl; rfl; (first
                    | exact (rfl : _ = some (Value.int _ _))
                    | exact (rfl : _ = some (Value.slice _ _ _))))
                    | ((with_reducible apply r_callP (hS)); rfl; rfl; rfl; rfl; rfl; (exact (rfl : _ = Value.int _ _)))
                    | ((with_reducible apply r_callP (hT)); rfl; rfl; rfl; rfl; rfl; (exact (rfl : _ = Value.bool _)))
                    | ((with_reducible apply r_callP (hK)); rfl; rfl; rfl; rfl; rfl; (exact (rfl : _ = Value.agg _)))
                    | with_reducible refine r_doneN ?_
                    | with_reducible refine c_reg ?_
                    | with_reducible refine c_seq ?_
                    | with_reducible refine c_skip ?_
                    | with_reducible refine c_exit ?_
                    | with_reducible refine c_ret ?_
                    | with_reducible refine x_then ?_
                    | with_reducible refine x_thenE ?_
                    | with_reducible refine x_leaveE ?_
                    | (with_reducible refine r_doneD (by kernel_rfl) ?_)
                    | (with_reducible refine c_draw (by kernel_rfl) ?_)
                    | ((with_reducible apply c_false); rfl)
                    | ((with_reducible apply x_block); rfl))
                  refine x_end ?_
                  exact end_same (v := .bool true) rfl rfl rfl (dsR_kept ds) rfl
            · by_cases hni : n = i
              · have hI := Inclusion_bad (G := G) ds c (i : Nat) (.inr (by omega))
                rw [hn] at hI
                have hC := Cons_ok (G := G) kk hG hG1 ds c i hn (by omega) hc (by omega) (by omega) rfl
                have hQl := consP_short kk t ds i (by omega) (by omega)
                generalize consP kk ds i = Q at *
                by_cases hn2 : n < 2
                · have hk0 : splitF (n : Int) = 0 := by unfold splitF; rw [if_pos (by omega)]
                  rw [hk0] at hS
                  generalize hq : 2 ^ t = q at *
                  refine c_hole 2 (H' := [dsR ds, hole, hole]) rfl ?_
                  repeat (first
                    | ((with_reducible apply r_callN (e := [some (0, 0)]) (nid := 0) hI); rfl; rfl; rfl; rfl; rfl; rfl; rfl; refine ⟨⟨⟨rfl, rfl, by omega, by omega, by omega⟩, rfl, trivial⟩, ⟨emb_ro rfl rfl (by show 0 + (dsC _).length ≤ (dsC _).length; omega) (dsC_whole _), trivial⟩, rfl, rfl, rfl⟩; exact (show _ = Value.tuple #[nilS, .int .i64 20] by kernel_rfl); exact (show _ = [dsR ds, hole, hole] by kernel_rfl))
                    | ((with_reducible apply r_callN (e := [some (0, 0)]) (nid := 2) hC); rfl; rfl; rfl; rfl; rfl; rfl; rfl; refine ⟨⟨⟨rfl, rfl, by omega, by omega, by omega⟩, rfl, trivial⟩, ⟨emb_ro rfl rfl (by show 0 + (dsC _).length ≤ (dsC _).length; omega) (dsC_whole _), trivial⟩, rfl, rfl, rfl⟩; exact (show _ = Value.tuple #[slv 2 0 Q.length Q.length, .int .i64 0] by kernel_rfl); exact (show _ = [dsR ds, hole, dsB Q] by kernel_rfl))
                    | ((with_reducible apply r_move); rfl; rfl; (first
                    | exact (rfl : _ = Value.int _ _)
                    | exact (rfl : _ = Value.bool _)
                    | exact (rfl : _ = Value.slice _ _ _)
                    | exact (rfl : _ = Value.tuple _)))
                    | ((with_reducible apply r_assign); rfl; rfl; (first
                    | exact (rfl : _ = Value.int _ _)
                    | exact (rfl : _ = Value.bool _)
                    | exact (rfl : _ = Value.slice _ _ _)))
                    | ((with_reducible apply r_bin); rfl; rfl; (exact (rfl : _ = Value.int _ _)); (exact (rfl : _ = Value.int _ _)); (first
                    | with_reducible exact lss_f (by omega)
                    | with_reducible exact gtr_f (by omega)
                    | with_reducible exact eql_t (by omega)
                    | with_reducible exact eql_f (by omega)
                    | with_reducible exact bin_add rfl (by omega) (by omega)))
                    | ((with_reducible apply r_pick); rfl; rfl; (exact (rfl : _ = some (Value.bool _))))
                    | ((with_reducible apply r_len); rfl; rfl; (exact (rfl : _ = Value.slice _ _ _)); (exact (rfl : _ = some (Value.int _ _))))
                    | ((with_reducible apply r_extract); rfl; rfl; rfl; (first
                    | exact (rfl : _ = some (Value.int _ _))
                    | exact (rfl : _ = some (Value.slice _ _ _))))
                    | ((with_reducible apply r_skip); rfl; rfl)
                    | ((with_reducible apply r_callP (hS)); rfl; rfl; rfl; rfl; rfl; (exact (rfl : _ = Value.int _ _)))
                    | ((with_reducible apply r_callP (hT)); rfl; rfl; rfl; rfl; rfl; (exact (rfl : _ = Value.bool _)))
                    | with_reducible refine r_doneN ?_
                    | with_reducible refine c_reg ?_
                    | with_reducible refine c_seq ?_
                    | with_reducible refine c_skip ?_
                    | with_reducible refine c_exit ?_
                    | with_reducible refine c_ret ?_
                    | with_reducible refine x_then ?_
                    | with_reducible refine x_thenE ?_
                    | with_reducible refine x_thenR ?_
                    | with_reducible refine x_leaveE ?_
                    | ((with_reducible apply c_true); rfl)
                    | ((with_reducible apply c_false); rfl)
                    | ((with_reducible apply x_block); rfl))
                  refine x_end ?_
                  exact end_same (v := .bool true) rfl rfl rfl (dsR_kept ds) rfl
                · obtain ⟨s1, s2, s3⟩ := splitF_pos (n := n) (by omega)
                  rw [s3] at hS
                  have hkk : splitN n = (splitF (n : Int)).toNat := rfl
                  have h2k := (splitN_half (n := n) (t := 7) (by omega) (by omega)).2.2
                  rw [hkk] at h2k
                  have hx := rootI_two kk (ds := ds) (by omega) (by omega)
                  rw [hn, hkk] at hx
                  generalize (splitF (n : Int)).toNat = k at *
                  have e1 : ds.take k = sub ds 0 k := by simp [sub]
                  have e2 : ds.drop k = sub ds k (n - k) := by unfold sub; rw [List.take_of_length_le (by simp; omega)]
                  rw [e1, e2] at hx
                  have hR := Root_ok' (G := G) kk hG hG1 ds (c := c) hn (by omega) (by omega) hx
                  have hRa := Root_ok' (G := G) kk hG hG1 (sub ds 0 k) (c := c) (sub_len (by omega)) (by omega) (by omega) rfl
                  have hRb := Root_ok' (G := G) kk hG hG1 (sub ds k (n - k)) (c := c - k) (sub_len (by omega)) (by omega) (by omega) rfl
                  have hK := Knot_ok (G := G) kk hG (rootI kk (sub ds 0 k)) (rootI kk (sub ds k (n - k)))
                  generalize knotF kk (rootI kk (sub ds 0 k)) (rootI kk (sub ds k (n - k))) = y at *
                  generalize rootI kk (sub ds 0 k) = a at *
                  generalize rootI kk (sub ds k (n - k)) = b at *
                  generalize hq : 2 ^ t = q at *
                  refine c_hole 2 (H' := [dsR ds, hole, hole]) rfl ?_
                  repeat (first
                    | ((with_reducible apply r_callN (e := [some (0, 0)]) (nid := 0) hI); rfl; rfl; rfl; rfl; rfl; rfl; rfl; refine ⟨⟨⟨rfl, rfl, by omega, by omega, by omega⟩, rfl, trivial⟩, ⟨emb_ro rfl rfl (by show 0 + (dsC _).length ≤ (dsC _).length; omega) (dsC_whole _), trivial⟩, rfl, rfl, rfl⟩; exact (show _ = Value.tuple #[nilS, .int .i64 20] by kernel_rfl); exact (show _ = [dsR ds, hole, hole] by kernel_rfl))
                    | ((with_reducible apply r_callN (e := [some (0, 0)]) (nid := 2) hC); rfl; rfl; rfl; rfl; rfl; rfl; rfl; refine ⟨⟨⟨rfl, rfl, by omega, by omega, by omega⟩, rfl, trivial⟩, ⟨emb_ro rfl rfl (by show 0 + (dsC _).length ≤ (dsC _).length; omega) (dsC_whole _), trivial⟩, rfl, rfl, rfl⟩; exact (show _ = Value.tuple #[slv 2 0 Q.length Q.length, .int .i64 0] by kernel_rfl); exact (show _ = [dsR ds, hole, dsB Q] by kernel_rfl))
                    | ((with_reducible apply r_callN (e := [some (0, 0)]) (nid := 0) hR); rfl; rfl; rfl; rfl; rfl; rfl; rfl; refine ⟨⟨⟨rfl, rfl, by omega, by omega, by omega⟩, trivial⟩, ⟨emb_ro rfl rfl (by show 0 + (dsC _).length ≤ (dsC _).length; omega) (dsC_whole _), trivial⟩, rfl, rfl, rfl⟩; exact (rfl : _ = Value.agg _); exact (rfl : _ = _ :: _))
                    | ((with_reducible apply r_callN (e := [some (0, 0)]) (nid := 0) hRa); rfl; rfl; rfl; rfl; rfl; rfl; rfl; refine ⟨⟨⟨rfl, rfl, by omega, by omega, by omega⟩, trivial⟩, ⟨emb_sub rfl (.inl rfl) (by omega) rfl, trivial⟩, rfl, rfl, rfl⟩; exact (rfl : _ = Value.agg _); exact (rfl : _ = _ :: _))
                    | ((with_reducible apply r_callN (e := [some (0, k * 32)]) (nid := 0) hRb); rfl; rfl; rfl; rfl; rfl; rfl; rfl; refine ⟨⟨⟨rfl, rfl, by omega, by omega, by omega⟩, trivial⟩, ⟨emb_sub rfl (.inl rfl) (by omega) rfl, trivial⟩, rfl, rfl, rfl⟩; exact (rfl : _ = Value.agg _); exact (rfl : _ = _ :: _))
                    | ((with_reducible apply r_slice); rfl; rfl; exact (rfl : _ = Value.slice (some ⟨_, _, _⟩) _ _); rfl; rfl; first | exact slice_hi (h := k) rfl rfl rfl (by omega) rfl | exact slice_lo (l := k) (sz := 32) (j := k * 32) (m := n - k) (c' := c - k) rfl rfl rfl rfl (by omega) (by omega) rfl (by omega) (by omega) (by omega))
                    | ((with_reducible apply r_bin); rfl; rfl; exact (rfl : _ = Value.agg _); exact (rfl : _ = Value.agg _); refine Eq.trans (eql_dg (a := y) (b := y) (by kernel_rfl) rfl rfl rfl) ?_; rw [sameB_refl])
                    | ((with_reducible apply r_move); rfl; rfl; (first
                    | exact (rfl : _ = Value.int _ _)
                    | exact (rfl : _ = Value.bool _)
                    | exact (rfl : _ = Value.slice _ _ _)
                    | exact (rfl : _ = Value.tuple _)))
                    | ((with_reducible apply r_assign); rfl; rfl; (first
                    | exact (rfl : _ = Value.int _ _)
                    | exact (rfl : _ = Value.bool _)
                    | exact (rfl : _ = Value.slice _ _ _)))
                    | ((with_reducible apply r_bin); rfl; rfl; (exact (rfl : _ = Value.int _ _)); (exact (rfl : _ = Value.int _ _)); (first
                    | with_reducible exact lss_t (by omega)
                    | with_reducible exact lss_f (by omega)
                    | with_reducible exact leq_t (by omega)
                    | with_reducible exact gtr_f (by omega)
                    | with_reducible exact eql_t (by omega)
                    | with_reducible exact eql_f (by omega)
                    | with_reducible exact bin_add rfl (by omega) (by omega)
                    | with_reducible exact bin_mul rfl (by omega) (by omega)))
                    | ((with_reducible apply r_pick); rfl; rfl; (exact (rfl : _ = some (Value.bool _))))
                    | ((with_reducible apply r_len); rfl; rfl; (exact (rfl : _ = Value.slice _ _ _)); (exact (rfl : _ = some (Value.int _ _))))
                    | ((with_reducible apply r_extract); rfl; rfl; rfl; (first
                    | exact (rfl : _ = some (Value.int _ _))
                    | exact (rfl : _ = some (Value.slice _ _ _))))
                    | ((with_reducible apply r_skip); rfl; rfl)
                    | ((with_reducible apply r_callP (hS)); rfl; rfl; rfl; rfl; rfl; (exact (rfl : _ = Value.int _ _)))
                    | ((with_reducible apply r_callP (hT)); rfl; rfl; rfl; rfl; rfl; (exact (rfl : _ = Value.bool _)))
                    | ((with_reducible apply r_callP (hK)); rfl; rfl; rfl; rfl; rfl; (exact (rfl : _ = Value.agg _)))
                    | with_reducible refine r_doneN ?_
                    | with_reducible refine c_reg ?_
                    | with_reducible refine c_seq ?_
                    | with_reducible refine c_skip ?_
                    | with_reducible refine c_exit ?_
                    | with_reducible refine c_ret ?_
                    | with_reducible refine x_then ?_
                    | with_reducible refine x_thenE ?_
                    | with_reducible refine x_leaveE ?_
                    | (with_reducible refine r_doneD (by kernel_rfl) ?_)
                    | (with_reducible refine c_draw (by kernel_rfl) ?_)
                    | ((with_reducible apply c_false); rfl)
                    | ((with_reducible apply x_block); rfl))
                  refine x_end ?_
                  exact end_same (v := .bool true) rfl rfl rfl (dsR_kept ds) rfl
              · have hI := Incl_ok (G := G) kk hG hG1 ds c i hn (by omega) hc (by omega) rfl
                have hPl := inclP_short kk t ds i (by omega)
                generalize inclP kk ds i = P at *
                have hC := Cons_ok (G := G) kk hG hG1 ds c i hn (by omega) hc (by omega) (by omega) rfl
                have hQl := consP_short kk t ds i (by omega) (by omega)
                generalize consP kk ds i = Q at *
                by_cases hn2 : n < 2
                · omega
                · obtain ⟨s1, s2, s3⟩ := splitF_pos (n := n) (by omega)
                  rw [s3] at hS
                  have hkk : splitN n = (splitF (n : Int)).toNat := rfl
                  have h2k := (splitN_half (n := n) (t := 7) (by omega) (by omega)).2.2
                  rw [hkk] at h2k
                  have hx := rootI_two kk (ds := ds) (by omega) (by omega)
                  rw [hn, hkk] at hx
                  generalize (splitF (n : Int)).toNat = k at *
                  have e1 : ds.take k = sub ds 0 k := by simp [sub]
                  have e2 : ds.drop k = sub ds k (n - k) := by unfold sub; rw [List.take_of_length_le (by simp; omega)]
                  rw [e1, e2] at hx
                  have hR := Root_ok' (G := G) kk hG hG1 ds (c := c) hn (by omega) (by omega) hx
                  have hRa := Root_ok' (G := G) kk hG hG1 (sub ds 0 k) (c := c) (sub_len (by omega)) (by omega) (by omega) rfl
                  have hRb := Root_ok' (G := G) kk hG hG1 (sub ds k (n - k)) (c := c - k) (sub_len (by omega)) (by omega) (by omega) rfl
                  have hK := Knot_ok (G := G) kk hG (rootI kk (sub ds 0 k)) (rootI kk (sub ds k (n - k)))
                  generalize knotF kk (rootI kk (sub ds 0 k)) (rootI kk (sub ds k (n - k))) = y at *
                  generalize rootI kk (sub ds 0 k) = a at *
                  generalize rootI kk (sub ds k (n - k)) = b at *
                  generalize hq : 2 ^ t = q at *
                  refine c_hole 2 (H' := [dsR ds, hole, hole]) rfl ?_
                  repeat (first
                    | ((with_reducible apply r_callN (e := [some (0, 0)]) (nid := 1) hI); rfl; rfl; rfl; rfl; rfl; rfl; rfl; refine ⟨⟨⟨rfl, rfl, by omega, by omega, by omega⟩, rfl, trivial⟩, ⟨emb_ro rfl rfl (by show 0 + (dsC _).length ≤ (dsC _).length; omega) (dsC_whole _), trivial⟩, rfl, rfl, rfl⟩; exact (show _ = Value.tuple #[slv 1 0 P.length P.length, .int .i64 0] by kernel_rfl); exact (show _ = [dsR ds, dsB P, hole] by kernel_rfl))
                    | ((with_reducible apply r_callN (e := [some (0, 0)]) (nid := 2) hC); rfl; rfl; rfl; rfl; rfl; rfl; rfl; refine ⟨⟨⟨rfl, rfl, by omega, by omega, by omega⟩, rfl, trivial⟩, ⟨emb_ro rfl rfl (by show 0 + (dsC _).length ≤ (dsC _).length; omega) (dsC_whole _), trivial⟩, rfl, rfl, rfl⟩; exact (show _ = Value.tuple #[slv 2 0 Q.length Q.length, .int .i64 0] by kernel_rfl); exact (show _ = [dsR ds, dsB P, dsB Q] by kernel_rfl))
                    | ((with_reducible apply r_callN (e := [some (0, 0)]) (nid := 0) hR); rfl; rfl; rfl; rfl; rfl; rfl; rfl; refine ⟨⟨⟨rfl, rfl, by omega, by omega, by omega⟩, trivial⟩, ⟨emb_ro rfl rfl (by show 0 + (dsC _).length ≤ (dsC _).length; omega) (dsC_whole _), trivial⟩, rfl, rfl, rfl⟩; exact (rfl : _ = Value.agg _); exact (rfl : _ = _ :: _))
                    | ((with_reducible apply r_callN (e := [some (0, 0)]) (nid := 0) hRa); rfl; rfl; rfl; rfl; rfl; rfl; rfl; refine ⟨⟨⟨rfl, rfl, by omega, by omega, by omega⟩, trivial⟩, ⟨emb_sub rfl (.inl rfl) (by omega) rfl, trivial⟩, rfl, rfl, rfl⟩; exact (rfl : _ = Value.agg _); exact (rfl : _ = _ :: _))
                    | ((with_reducible apply r_callN (e := [some (0, k * 32)]) (nid := 0) hRb); rfl; rfl; rfl; rfl; rfl; rfl; rfl; refine ⟨⟨⟨rfl, rfl, by omega, by omega, by omega⟩, trivial⟩, ⟨emb_sub rfl (.inl rfl) (by omega) rfl, trivial⟩, rfl, rfl, rfl⟩; exact (rfl : _ = Value.agg _); exact (rfl : _ = _ :: _))
                    | ((with_reducible apply r_slice); rfl; rfl; exact (rfl : _ = Value.slice (some ⟨_, _, _⟩) _ _); rfl; rfl; first | exact slice_hi (h := k) rfl rfl rfl (by omega) rfl | exact slice_lo (l := k) (sz := 32) (j := k * 32) (m := n - k) (c' := c - k) rfl rfl rfl rfl (by omega) (by omega) rfl (by omega) (by omega) (by omega))
                    | ((with_reducible apply r_bin); rfl; rfl; exact (rfl : _ = Value.agg _); exact (rfl : _ = Value.agg _); refine Eq.trans (eql_dg (a := y) (b := y) (by kernel_rfl) rfl rfl rfl) ?_; rw [sameB_refl])
                    | ((with_reducible apply r_move); rfl; rfl; (first
                    | exact (rfl : _ = Value.int _ _)
                    | exact (rfl : _ = Value.bool _)
                    | exact (rfl : _ = Value.slice _ _ _)
                    | exact (rfl : _ = Value.tuple _)))
                    | ((with_reducible apply r_assign); rfl; rfl; (first
                    | exact (rfl : _ = Value.int _ _)
                    | exact (rfl : _ = Value.bool _)
                    | exact (rfl : _ = Value.slice _ _ _)))
                    | ((with_reducible apply r_bin); rfl; rfl; (exact (rfl : _ = Value.int _ _)); (exact (rfl : _ = Value.int _ _)); (first
                    | with_reducible exact lss_t (by omega)
                    | with_reducible exact lss_f (by omega)
                    | with_reducible exact leq_t (by omega)
                    | with_reducible exact gtr_f (by omega)
                    | with_reducible exact eql_t (by omega)
                    | with_reducible exact eql_f (by omega)
                    | with_reducible exact bin_add rfl (by omega) (by omega)
                    | with_reducible exact bin_mul rfl (by omega) (by omega)))
                    | ((with_reducible apply r_pick); rfl; rfl; (exact (rfl : _ = some (Value.bool _))))
                    | ((with_reducible apply r_len); rfl; rfl; (exact (rfl : _ = Value.slice _ _ _)); (exact (rfl : _ = some (Value.int _ _))))
                    | ((with_reducible apply r_extract); rfl; rfl; rfl; (first
                    | exact (rfl : _ = some (Value.int _ _))
                    | exact (rfl : _ = some (Value.slice _ _ _))))
                    | ((with_reducible apply r_callP (hS)); rfl; rfl; rfl; rfl; rfl; (exact (rfl : _ = Value.int _ _)))
                    | ((with_reducible apply r_callP (hT)); rfl; rfl; rfl; rfl; rfl; (exact (rfl : _ = Value.bool _)))
                    | ((with_reducible apply r_callP (hK)); rfl; rfl; rfl; rfl; rfl; (exact (rfl : _ = Value.agg _)))
                    | with_reducible refine r_doneN ?_
                    | with_reducible refine c_reg ?_
                    | with_reducible refine c_seq ?_
                    | with_reducible refine c_skip ?_
                    | with_reducible refine c_exit ?_
                    | with_reducible refine c_ret ?_
                    | with_reducible refine x_then ?_
                    | with_reducible refine x_thenE ?_
                    | with_reducible refine x_leaveE ?_
                    | (with_reducible refine r_doneD (by kernel_rfl) ?_)
                    | (with_reducible refine c_draw (by kernel_rfl) ?_)
                    | ((with_reducible apply c_false); rfl)
                    | ((with_reducible apply x_block); rfl))
                  refine x_end ?_
                  exact end_same (v := .bool true) rfl rfl rfl (dsR_kept ds) rfl
end Go.Flat
end
section
namespace Go.Proofs.YtabhbnhkobkakaaDoor
open Go.ChangeShapes Go.WideShapes Go.ChangeAt Go.RowKit
set_option linter.unusedVariables false
set_option maxRecDepth 100000 in
theorem treeShort_lifted (os : Os) (started : os.Started) (H : Type) (enc : TypeId × Value → H) :
    ReturnsInHanded {} Tryd.checked os 6 .any (fun w args => (Rows.treeShortSpec.pre enc Tryd.prog Tryd.f6 Rows.treeShortRow.domain false w args ∧ laidMetH Tryd.prog Rows.treeShortRow.laid w) ∧ sizedMet enc Tryd.prog Tryd.f6 (OpenSpec.ofChange Rows.treeShortSpec) false w args)
      (Rows.treeShortSpec.post enc Tryd.prog Tryd.f6 false true false false) := by
  refine returnsInHanded_of_change_and (C := Tryd.checked) (X := fun w _ => laidMetH Tryd.prog Rows.treeShortRow.laid w) (fun _ _ _ hh h => h.of_heap hh) own started (by kernel_rfl) Tryd.func6
    (ChangeSpec.witness_shaped (enc := enc) (C := Tryd.checked) (os := os) (X := fun w _ => laidMetH Tryd.prog Rows.treeShortRow.laid w) false (World.laidAll Tryd.prog os Rows.treeShortRow.laid) #[.slice none 0 0, .int .i64 0] 8 (World.laidAll_os _ _ _)
      (World.shaped_of_ZipB (by kernel_rfl) (by kernel_rfl)) (by kernel_rfl) (by kernel_rfl) (by kernel_rfl)
      (by rw [MakeChecks.laidMetH_plain _ _ _ (by kernel_rfl)]; exact laidMet_laidAll _ (by kernel_rfl) (by kernel_rfl))) ?_
  intro W base args ds gs before hval0 hW hc _ hL _
  have hval : ∀ (j : Nat) t v, Tryd.f6.params[j]? = some t → args[j]? = some v → Value.okWide Tryd.prog W .any base t v := hval0
  have hW' := hW
  obtain ⟨p, q, hA0, hV, _, _, _⟩ := hW'
  have hA : DataW.TrodAll enc Tryd.prog W 0 (fun _ => true) true Tryd.f6.params.toList args.toList ds p := hA0
  rw [Tryd.params6] at hA hval
  obtain ⟨v0, v1, d0, d1, p0, p1, rfl, rfl, rfl, h0, h1⟩ := trodAll_two hA
  have hrel0 := hrel_of_laid (by kernel_rfl) hL (by simp [Rows.treeShortRow]) (by simp [Rows.treeShortRow])
  have hro0 : ∀ (b : Nat) (r : Flat.Reg), (fun _ => none : Flat.MapM) b = some r → r.wr = false := fun _ _ h => by cases h
  obtain ⟨ds0, c0, m0, l0, u0, hrel1, hro1, hext0, hv0⟩ := hrel0.addDs hro0 Tryd.underlying22 Tryd.underlying26 Tryd.underlying5 (by kernel_rfl) (by kernel_rfl) (hval 0 22 v0 rfl rfl) h0
  obtain ⟨x1, rfl, _, _, wx1⟩ := open_int Tryd.underlying3 (hval 1 3 v1 rfl rfl) h1
  have b1 : -9223372036854775808 ≤ x1 ∧ x1 ≤ 9223372036854775807 := by
    rw [Lit.wf, Bool.and_eq_true] at wx1
    exact ⟨of_decide_eq_true wx1.1, of_decide_eq_true wx1.2⟩
  exact Flat.law_calls (argsL := [Flat.slv 0 0 ds0.length c0, .int .i64 x1]) hW rfl rfl rfl Tryd.underlying4 (by kernel_rfl) (by kernel_rfl) hro1 hrel1 (Flat.L2.cons (hv0) (Flat.L2.cons (rfl) Flat.L2.nil)) (Flat.TreeShort_ok kk hG hG1 ds0 c0 x1 l0 u0 b1.1 b1.2)
theorem treeShort_said : Rows.TreeShortSaid :=
  OpenClaim.holds_of_wide 6 Tryd.f6 rfl rfl rfl rfl rfl rfl rfl ⟨rfl, rfl, rfl, rfl, rfl⟩ rfl rfl rfl rfl rfl (by kernel_rfl) Tryd.func6 (by kernel_rfl)
    (of_decide_eq_true (by kernel_rfl)) (by unfold Func.isWrapper; first | (rw [if_pos (by decide +kernel)]; kernel_rfl) | (rw [if_neg (by decide +kernel)]; exact ⟨rfl, rfl⟩))
    (fun os started H enc _ => treeShort_lifted os started H enc)
theorem treeShort_holds : Rows.TreeShortCardSaid :=
  Claim7.holds_tied_plain_at .later [] [.data, .data, .data] true (true, "b75c6d91873f64bda9656c4e5567a44aaef6adadaae2519fb6a4187272d27960") false treeShort_said (fun _ h => by cases h) (by kernel_rfl) (fun _ h => by cases h) treeShort_row_tie rfl ⟨rfl, rfl⟩ (by kernel_rfl) rfl
    (fun f fn hf hfn => by
      obtain rfl : f = 6 := Option.some.inj ((show Tryd.prog.funcNamed "estreat/estreatlaw03.TreeShort" = some 6 by kernel_rfl).symm.trans hf) |>.symm
      obtain rfl : fn = Tryd.f6 := (Option.some.inj (Tryd.func6.symm.trans hfn)).symm
      exact ⟨by kernel_rfl, fun j t ht => by
        rw [Tryd.params6] at ht
        have hm : t ∈ [22, 3] := by simpa using Array.mem_of_getElem? ht
        have hall : ([22, 3].all fun u => !Tryd.prog.wantsStandIn u) = true := by kernel_rfl
        exact (show Tryd.prog.wantsStandIn t = false by simpa using List.all_eq_true.1 hall t hm)⟩)
    (by kernel_rfl)
#print axioms treeShort_holds
end Go.Proofs.YtabhbnhkobkakaaDoor
end
