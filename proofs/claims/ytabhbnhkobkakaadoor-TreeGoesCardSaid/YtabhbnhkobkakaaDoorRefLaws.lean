/- TreeRoots, TreeIncludes, TreeGoes walked; the tables. -/
import Derived.Test.YtabhbnhkobkakaaDoorRef
import Derived.Test.YtabhbnhkobkakaaDoorTree
section
set_option linter.unusedVariables false
namespace Go.Flat
open Go.Proofs
variable {G : Glob}
theorem Own_ok' (ds : List D) (c n : Nat) (hn : ds.length = n) (hb : n ≤ 1000000) : CallL Tryd.prog G 10 [slv 0 0 n c] [dsR ds] (slv 1 0 n n) [dsR ds, dsB ds] := by
  subst hn; exact Own_ok ds c hb
theorem Digests_eq (ds : List D) (n c c' : Nat) (hn : ds.length = n) (hb : n ≤ 1000000) : CallL Tryd.prog G 16 [slv 0 0 n c, slv 1 0 n c'] [dsR ds, dsR ds] (.bool true) [dsR ds, dsR ds] := by
  subst hn
  have h := Digests_ok (G := G) ds ds c c' hb hb
  rw [sameDs_refl] at h; exact h
theorem Digests_nil : CallL Tryd.prog G 16 [nilS, nilS] [] (.bool true) [] := by
  refine walk (fn := Tryd.f16) (nt := 26) rfl rfl rfl rfl ?_
  repeat (first
    | ((with_reducible apply r_move); rfl; rfl; (exact (rfl : _ = Value.slice _ _ _)))
    | ((with_reducible apply r_assign); rfl; rfl; (first
    | exact (rfl : _ = Value.int _ _)
    | exact (rfl : _ = Value.bool _)))
    | ((with_reducible apply r_bin); rfl; rfl; (exact (rfl : _ = Value.int _ _)); (exact (rfl : _ = Value.int _ _)); (with_reducible exact neq_f (by omega)))
    | ((with_reducible apply r_len); rfl; rfl; (exact (rfl : _ = Value.slice _ _ _)); (exact (rfl : _ = some (Value.int _ _))))
    | with_reducible refine r_doneN ?_
    | with_reducible refine c_reg ?_
    | with_reducible refine c_seq ?_
    | with_reducible refine c_block ?_
    | with_reducible refine c_skip ?_
    | with_reducible refine x_then ?_
    | ((with_reducible apply c_false); rfl))
  refine c_loopN (fun i : Nat => [nilS, nilS, dead, dead, dead, .int .i64 (0 : Nat)]) (fun _ => []) (fun _ => True) (fun _ => 0) 0 trivial ?_ ?_
  · refine weak_to (n := 0) rfl ?_ rfl rfl
    repeat (first | exact trivial | refine ⟨.inl rfl, ?_⟩ | refine ⟨.inr ⟨rfl, rfl⟩, ?_⟩)
  · intro i _
    repeat (first
      | ((with_reducible apply r_move); rfl; rfl; (first
      | exact (rfl : _ = Value.int _ _)
      | exact (rfl : _ = Value.slice _ _ _)))
      | ((with_reducible apply r_assign); rfl; rfl; (exact (rfl : _ = Value.bool _)))
      | ((with_reducible apply r_bin); rfl; rfl; (exact (rfl : _ = Value.int _ _)); (exact (rfl : _ = Value.int _ _)); (with_reducible exact lss_f (by omega)))
      | ((with_reducible apply r_len); rfl; rfl; (exact (rfl : _ = Value.slice _ _ _)); (exact (rfl : _ = some (Value.int _ _))))
      | with_reducible refine r_doneN ?_
      | with_reducible refine c_reg ?_
      | with_reducible refine c_seq ?_
      | with_reducible refine c_exit ?_
      | with_reducible refine c_ret ?_
      | with_reducible refine x_then ?_
      | with_reducible refine x_thenE ?_
      | with_reducible refine x_leaveE ?_
      | ((with_reducible apply c_false); rfl)
      | ((with_reducible apply x_block); rfl))
    refine x_end ?_
    exact end_pv (v := .bool true) rfl rfl rfl
set_option maxHeartbeats 8000000 in
theorem TreeRoots_ok (kk : Nat → BitVec 32) (hG : G 3 = some (rowE w32 64 kk)) (hG1 : G 1 = some (rowE u8N 64 dbF)) (hG2 : G 2 = some (rowE w32 64 kk)) (ds : List D) (c : Nat) (I : Int) (hc : ds.length ≤ c) (hm : c ≤ 9223372036854775807) (hi1 : -9223372036854775808 ≤ I) (hi2 : I ≤ 9223372036854775807) :
    CallL Tryd.prog G 3 [slv 0 0 ds.length c, .int .i64 I] [dsR ds] (.bool true) [dsR ds] := by
  refine walk (fn := Tryd.f3) (nt := 31) rfl rfl rfl rfl ?_
  generalize hn : ds.length = n at *
  by_cases h200 : 200 < n
  · skip
    repeat (first
      | ((with_reducible apply r_move); rfl; rfl; (exact (rfl : _ = Value.slice _ _ _)))
      | ((with_reducible apply r_assign); rfl; rfl; (exact (rfl : _ = Value.bool _)))
      | ((with_reducible apply r_bin); rfl; rfl; (exact (rfl : _ = Value.int _ _)); (exact (rfl : _ = Value.int _ _)); (with_reducible exact gtr_t (by omega)))
      | ((with_reducible apply r_len); rfl; rfl; (exact (rfl : _ = Value.slice _ _ _)); (exact (rfl : _ = some (Value.int _ _))))
      | with_reducible refine r_doneN ?_
      | with_reducible refine c_reg ?_
      | with_reducible refine c_seq ?_
      | with_reducible refine c_ret ?_
      | with_reducible refine x_then ?_
      | with_reducible refine x_thenR ?_
      | ((with_reducible apply c_true); rfl))
    refine x_end ?_
    exact end_same (v := .bool true) rfl rfl rfl (dsR_kept ds) rfl
  · have hT := three_law (G := G) kk hG hG1
    have hO := Own_ok' (G := G) ds c n hn (by omega)
    have hR := Root_ok' (G := G) kk hG hG1 ds (c := c) hn (by omega) hc rfl
    have hR2 := refRoot_ok (G := G) kk hG2 n ds n hn (by omega) (Nat.le_refl _)
    have hS := Split_ok (G := G) I hi2
    have hS2 := refSplit_ok (G := G) I hi2 hi1
    have hD := Digests_eq (G := G) ds n n n hn (by omega)
    generalize rootI kk ds = x at *
    generalize splitF I = k at *
    refine c_hole 1 (H' := [dsR ds, hole]) rfl ?_
    repeat (first
      | ((with_reducible apply r_callN (e := [some (0, 0)]) (nid := 1) hO); rfl; rfl; rfl; rfl; rfl; rfl; rfl; refine ⟨⟨⟨rfl, rfl, by omega, by omega, by omega⟩, trivial⟩, ⟨emb_ro rfl rfl (by show 0 + (dsC _).length ≤ (dsC _).length; omega) (dsC_whole _), trivial⟩, rfl, rfl, rfl⟩; exact (show _ = slv 1 0 n n by kernel_rfl); exact (show _ = [dsR ds, dsB ds] by kernel_rfl))
      | ((with_reducible apply r_callN (e := [some (0, 0)]) (nid := 0) hR); rfl; rfl; rfl; rfl; rfl; rfl; rfl; refine ⟨⟨⟨rfl, rfl, by omega, by omega, by omega⟩, trivial⟩, ⟨emb_ro rfl rfl (by show 0 + (dsC _).length ≤ (dsC _).length; omega) (dsC_whole _), trivial⟩, rfl, rfl, rfl⟩; exact (rfl : _ = Value.agg _); exact (rfl : _ = _ :: _))
      | ((with_reducible apply r_callN (e := [some (1, 0)]) (nid := 0) hR2); rfl; rfl; rfl; rfl; rfl; rfl; rfl; refine ⟨⟨⟨rfl, rfl, by omega, by omega, by omega⟩, trivial⟩, ⟨emb_ds rfl, trivial⟩, rfl, rfl, rfl⟩; exact (rfl : _ = Value.agg _); exact (rfl : _ = _ :: _))
      | ((with_reducible apply r_bin); rfl; rfl; exact (rfl : _ = Value.agg _); exact (rfl : _ = Value.agg _); refine Eq.trans (eql_dg (a := x) (b := x) (by kernel_rfl) rfl rfl rfl) ?_; rw [sameB_refl])
      | ((with_reducible apply r_callN (e := [some (0, 0), some (1, 0)]) (nid := 0) hD); rfl; rfl; rfl; rfl; rfl; rfl; rfl; refine ⟨⟨⟨rfl, rfl, by omega, by omega, by omega⟩, ⟨rfl, rfl, by omega, by omega, by omega⟩, trivial⟩, ⟨emb_ro rfl rfl (by show 0 + (dsC _).length ≤ (dsC _).length; omega) (dsC_whole _), emb_ds rfl, trivial⟩, rfl, rfl, rfl⟩; exact (rfl : _ = Value.bool true); exact (show _ = [dsR ds, dsB ds] by kernel_rfl))
      | ((with_reducible apply r_move); rfl; rfl; (first
      | exact (rfl : _ = Value.int _ _)
      | exact (rfl : _ = Value.bool _)
      | exact (rfl : _ = Value.slice _ _ _)))
      | ((with_reducible apply r_assign); rfl; rfl; (first
      | exact (rfl : _ = Value.bool _)
      | exact (rfl : _ = Value.slice _ _ _)))
      | ((with_reducible apply r_bin); rfl; rfl; (exact (rfl : _ = Value.int _ _)); (exact (rfl : _ = Value.int _ _)); (first
      | with_reducible exact gtr_f (by omega)
      | with_reducible exact eql_t (by omega)))
      | ((with_reducible apply r_pick); rfl; rfl; (exact (rfl : _ = some (Value.bool _))))
      | ((with_reducible apply r_len); rfl; rfl; (exact (rfl : _ = Value.slice _ _ _)); (exact (rfl : _ = some (Value.int _ _))))
      | ((with_reducible apply r_callP (hT)); rfl; rfl; rfl; rfl; rfl; (exact (rfl : _ = Value.bool _)))
      | ((with_reducible apply r_callP (hS)); rfl; rfl; rfl; rfl; rfl; (exact (rfl : _ = Value.int _ _)))
      | ((with_reducible apply r_callP (hS2)); rfl; rfl; rfl; rfl; rfl; (exact (rfl : _ = Value.int _ _)))
      | with_reducible refine r_doneN ?_
      | with_reducible refine c_reg ?_
      | with_reducible refine c_seq ?_
      | with_reducible refine c_skip ?_
      | with_reducible refine c_ret ?_
      | with_reducible refine x_then ?_
      | ((with_reducible apply c_false); rfl))
    refine x_end ?_
    exact end_same (v := .bool true) rfl rfl rfl (dsR_kept ds) rfl
set_option maxHeartbeats 8000000 in
theorem TreeIncludes_ok (kk : Nat → BitVec 32) (hG : G 3 = some (rowE w32 64 kk)) (hG1 : G 1 = some (rowE u8N 64 dbF)) (hG2 : G 2 = some (rowE w32 64 kk)) (ds : List D) (c : Nat) (I : Int) (hc : ds.length ≤ c) (hm : c ≤ 9223372036854775807) (hi1 : -9223372036854775808 ≤ I) (hi2 : I ≤ 9223372036854775807) :
    CallL Tryd.prog G 4 [slv 0 0 ds.length c, .int .i64 I] [dsR ds] (.bool true) [dsR ds] := by
  refine walk (fn := Tryd.f4) (nt := 67) rfl rfl rfl rfl ?_
  generalize hn : ds.length = n at *
  by_cases h200 : 200 < n
  · skip
    repeat (first
      | ((with_reducible apply r_move); rfl; rfl; (exact (rfl : _ = Value.slice _ _ _)))
      | ((with_reducible apply r_assign); rfl; rfl; (exact (rfl : _ = Value.bool _)))
      | ((with_reducible apply r_bin); rfl; rfl; (exact (rfl : _ = Value.int _ _)); (exact (rfl : _ = Value.int _ _)); (with_reducible exact gtr_t (by omega)))
      | ((with_reducible apply r_len); rfl; rfl; (exact (rfl : _ = Value.slice _ _ _)); (exact (rfl : _ = some (Value.int _ _))))
      | with_reducible refine r_doneN ?_
      | with_reducible refine c_reg ?_
      | with_reducible refine c_seq ?_
      | with_reducible refine c_ret ?_
      | with_reducible refine x_then ?_
      | with_reducible refine x_thenR ?_
      | ((with_reducible apply c_true); rfl))
    refine x_end ?_
    exact end_same (v := .bool true) rfl rfl rfl (dsR_kept ds) rfl
  have hT := three_law (G := G) kk hG hG1
  have hO := Own_ok' (G := G) ds c n hn (by omega)
  have hD := Digests_eq (G := G) ds n n n hn (by omega)
  refine c_hole 3 (H' := [dsR ds, hole, hole, hole]) rfl ?_
  by_cases hneg : I < 0
  · have hB := Inclusion_bad (G := G) ds c I (.inl (by omega))
    rw [hn] at hB
    repeat (first
      | ((with_reducible apply r_callN (e := [some (0, 0)]) (nid := 1) hO); rfl; rfl; rfl; rfl; rfl; rfl; rfl; refine ⟨⟨⟨rfl, rfl, by omega, by omega, by omega⟩, trivial⟩, ⟨emb_ro rfl rfl (by show 0 + (dsC _).length ≤ (dsC _).length; omega) (dsC_whole _), trivial⟩, rfl, rfl, rfl⟩; exact (show _ = slv 1 0 n n by kernel_rfl); exact (show _ = [dsR ds, dsB ds, hole, hole] by kernel_rfl))
      | ((with_reducible apply r_callN (e := [some (0, 0)]) (nid := 0) hB); rfl; rfl; rfl; rfl; rfl; rfl; rfl; refine ⟨⟨⟨rfl, rfl, by omega, by omega, by omega⟩, rfl, trivial⟩, ⟨emb_ro rfl rfl (by show 0 + (dsC _).length ≤ (dsC _).length; omega) (dsC_whole _), trivial⟩, rfl, rfl, rfl⟩; exact (show _ = Value.tuple #[nilS, .int .i64 20] by kernel_rfl); exact (show _ = [dsR ds, dsB ds, hole, hole] by kernel_rfl))
      | ((with_reducible apply r_move); rfl; rfl; (first
      | exact (rfl : _ = Value.int _ _)
      | exact (rfl : _ = Value.bool _)
      | exact (rfl : _ = Value.slice _ _ _)
      | exact (rfl : _ = Value.tuple _)))
      | ((with_reducible apply r_assign); rfl; rfl; (first
      | exact (rfl : _ = Value.int _ _)
      | exact (rfl : _ = Value.bool _)
      | exact (rfl : _ = Value.slice _ _ _)))
      | ((with_reducible apply r_bin); rfl; rfl; (exact (rfl : _ = Value.int _ _)); (exact (rfl : _ = Value.int _ _)); (first
      | with_reducible exact lss_t (by omega)
      | with_reducible exact gtr_f (by omega)
      | with_reducible exact eql_t (by omega)))
      | ((with_reducible apply r_pick); rfl; rfl; (exact (rfl : _ = some (Value.bool _))))
      | ((with_reducible apply r_len); rfl; rfl; (exact (rfl : _ = Value.slice _ _ _)); (exact (rfl : _ = some (Value.int _ _))))
      | ((with_reducible apply r_extract); rfl; rfl; rfl; (first
      | exact (rfl : _ = some (Value.int _ _))
      | exact (rfl : _ = some (Value.slice _ _ _))))
      | ((with_reducible apply r_skip); rfl; rfl)
      | ((with_reducible apply r_callP (hT)); rfl; rfl; rfl; rfl; rfl; (exact (rfl : _ = Value.bool _)))
      | with_reducible refine r_doneN ?_
      | with_reducible refine c_reg ?_
      | with_reducible refine c_seq ?_
      | with_reducible refine c_skip ?_
      | with_reducible refine c_ret ?_
      | with_reducible refine x_then ?_
      | with_reducible refine x_thenR ?_
      | ((with_reducible apply c_true); rfl)
      | ((with_reducible apply c_false); rfl))
    refine x_end ?_
    exact end_same (v := .bool true) rfl rfl rfl (dsR_kept ds) rfl
  by_cases hbig : (n : Int) ≤ I
  · have hB := Inclusion_bad (G := G) ds c I (.inr (by omega))
    rw [hn] at hB
    repeat (first
      | ((with_reducible apply r_callN (e := [some (0, 0)]) (nid := 1) hO); rfl; rfl; rfl; rfl; rfl; rfl; rfl; refine ⟨⟨⟨rfl, rfl, by omega, by omega, by omega⟩, trivial⟩, ⟨emb_ro rfl rfl (by show 0 + (dsC _).length ≤ (dsC _).length; omega) (dsC_whole _), trivial⟩, rfl, rfl, rfl⟩; exact (show _ = slv 1 0 n n by kernel_rfl); exact (show _ = [dsR ds, dsB ds, hole, hole] by kernel_rfl))
      | ((with_reducible apply r_callN (e := [some (0, 0)]) (nid := 0) hB); rfl; rfl; rfl; rfl; rfl; rfl; rfl; refine ⟨⟨⟨rfl, rfl, by omega, by omega, by omega⟩, rfl, trivial⟩, ⟨emb_ro rfl rfl (by show 0 + (dsC _).length ≤ (dsC _).length; omega) (dsC_whole _), trivial⟩, rfl, rfl, rfl⟩; exact (show _ = Value.tuple #[nilS, .int .i64 20] by kernel_rfl); exact (show _ = [dsR ds, dsB ds, hole, hole] by kernel_rfl))
      | ((with_reducible apply r_move); rfl; rfl; (first
      | exact (rfl : _ = Value.int _ _)
      | exact (rfl : _ = Value.bool _)
      | exact (rfl : _ = Value.slice _ _ _)
      | exact (rfl : _ = Value.tuple _)))
      | ((with_reducible apply r_assign); rfl; rfl; (first
      | exact (rfl : _ = Value.int _ _)
      | exact (rfl : _ = Value.bool _)
      | exact (rfl : _ = Value.slice _ _ _)))
      | ((with_reducible apply r_bin); rfl; rfl; (exact (rfl : _ = Value.int _ _)); (exact (rfl : _ = Value.int _ _)); (first
      | with_reducible exact lss_f (by omega)
      | with_reducible exact gtr_f (by omega)
      | with_reducible exact geq_t (by omega)
      | with_reducible exact eql_t (by omega)))
      | ((with_reducible apply r_pick); rfl; rfl; (exact (rfl : _ = some (Value.bool _))))
      | ((with_reducible apply r_len); rfl; rfl; (exact (rfl : _ = Value.slice _ _ _)); (exact (rfl : _ = some (Value.int _ _))))
      | ((with_reducible apply r_extract); rfl; rfl; rfl; (first
      | exact (rfl : _ = some (Value.int _ _))
      | exact (rfl : _ = some (Value.slice _ _ _))))
      | ((with_reducible apply r_callP (hT)); rfl; rfl; rfl; rfl; rfl; (exact (rfl : _ = Value.bool _)))
      | with_reducible refine r_doneN ?_
      | with_reducible refine c_reg ?_
      | with_reducible refine c_seq ?_
      | with_reducible refine c_skip ?_
      | with_reducible refine c_ret ?_
      | with_reducible refine x_then ?_
      | with_reducible refine x_thenR ?_
      | ((with_reducible apply c_true); rfl)
      | ((with_reducible apply c_false); rfl))
    refine x_end ?_
    exact end_same (v := .bool true) rfl rfl rfl (dsR_kept ds) rfl
  obtain ⟨i, rfl⟩ : ∃ j : Nat, I = j := ⟨I.toNat, by omega⟩
  have hI := Incl_ok (G := G) kk hG hG1 ds c i hn (by omega) hc (by omega) rfl
  have hRI := refIncl_ok (G := G) kk hG2 n ds n i hn (by omega) (Nat.le_refl _) (by omega)
  have hQl : (inclP kk ds i).length ≤ 1000 := by
    have := inclP_len kk n ds i (by omega)
    omega
  generalize inclP kk ds i = Q at *
  generalize hq : Q.length = q at *
  have hD2 := Digests_eq (G := G) Q q q q hq (by omega)
  repeat (first
    | ((with_reducible apply r_callN (e := [some (0, 0)]) (nid := 1) hO); rfl; rfl; rfl; rfl; rfl; rfl; rfl; refine ⟨⟨⟨rfl, rfl, by omega, by omega, by omega⟩, trivial⟩, ⟨emb_ro rfl rfl (by show 0 + (dsC _).length ≤ (dsC _).length; omega) (dsC_whole _), trivial⟩, rfl, rfl, rfl⟩; exact (show _ = slv 1 0 n n by kernel_rfl); exact (show _ = [dsR ds, dsB ds, hole, hole] by kernel_rfl))
    | ((with_reducible apply r_callN (e := [some (0, 0)]) (nid := 2) hI); rfl; rfl; rfl; rfl; rfl; rfl; rfl; refine ⟨⟨⟨rfl, rfl, by omega, by omega, by omega⟩, rfl, trivial⟩, ⟨emb_ro rfl rfl (by show 0 + (dsC _).length ≤ (dsC _).length; omega) (dsC_whole _), trivial⟩, rfl, rfl, rfl⟩; exact (show _ = Value.tuple #[slv 2 0 q q, .int .i64 0] by kernel_rfl); exact (show _ = [dsR ds, dsB ds, dsB Q, hole] by kernel_rfl))
    | ((with_reducible apply r_callN (e := [some (1, 0)]) (nid := 3) hRI); rfl; rfl; rfl; rfl; rfl; rfl; rfl; refine ⟨⟨⟨rfl, rfl, by omega, by omega, by omega⟩, rfl, trivial⟩, ⟨emb_ds rfl, trivial⟩, rfl, rfl, rfl⟩; exact (show _ = slv 3 0 q q by kernel_rfl); exact (show _ = [dsR ds, dsB ds, dsB Q, dsB Q] by kernel_rfl))
    | ((with_reducible apply r_callN (e := [some (2, 0), some (3, 0)]) (nid := 0) hD2); rfl; rfl; rfl; rfl; rfl; rfl; rfl; refine ⟨⟨⟨rfl, rfl, by omega, by omega, by omega⟩, ⟨rfl, rfl, by omega, by omega, by omega⟩, trivial⟩, ⟨emb_ds rfl, emb_ds rfl, trivial⟩, rfl, rfl, rfl⟩; exact (rfl : _ = Value.bool true); exact (show _ = [dsR ds, dsB ds, dsB Q, dsB Q] by kernel_rfl))
    | ((with_reducible apply r_move); rfl; rfl; (first
    | exact (rfl : _ = Value.int _ _)
    | exact (rfl : _ = Value.bool _)
    | exact (rfl : _ = Value.slice _ _ _)
    | exact (rfl : _ = Value.tuple _)))
    | ((with_reducible apply r_assign); rfl; rfl; (first
    | exact (rfl : _ = Value.int _ _)
    | exact (rfl : _ = Value.bool _)
    | exact (rfl : _ = Value.slice _ _ _)))
    | ((with_reducible apply r_bin); rfl; rfl; (exact (rfl : _ = Value.int _ _)); (exact (rfl : _ = Value.int _ _)); (first
    | with_reducible exact lss_f (by omega)
    | with_reducible exact gtr_f (by omega)
    | with_reducible exact geq_f (by omega)))
    | ((with_reducible apply r_pick); rfl; rfl; (exact (rfl : _ = some (Value.bool _))))
    | ((with_reducible apply r_len); rfl; rfl; (exact (rfl : _ = Value.slice _ _ _)); (exact (rfl : _ = some (Value.int _ _))))
    | ((with_reducible apply r_extract); rfl; rfl; rfl; (first
    | exact (rfl : _ = some (Value.int _ _))
    | exact (rfl : _ = some (Value.slice _ _ _))))
    | with_reducible refine r_doneN ?_
    | with_reducible refine c_reg ?_
    | with_reducible refine c_seq ?_
    | with_reducible refine c_block ?_
    | with_reducible refine c_skip ?_
    | with_reducible refine x_then ?_
    | ((with_reducible apply c_false); rfl))
  refine c_loopN (fun x : Nat × List D => [slv 0 0 n c, .int .i64 (i : Nat), dead, dead, dead, slv 1 0 n n, slv 2 0 q q, .int .i64 0, .bool true, .int .i64 (x.1 : Nat)]) (fun x => [dsR ds, dsB ds, dsB x.2]) (fun x => x.1 ≤ q ∧ x.2.length = q) (fun x => q - x.1) (0, Q) ⟨Nat.zero_le _, hq⟩ ?_ ?_
  · refine weak_to (n := 3) rfl ?_ rfl ?_
    · skip
      repeat (first | exact trivial | refine ⟨.inl rfl, ?_⟩ | refine ⟨.inr ⟨rfl, rfl⟩, ?_⟩)
    · simp [dsR, dsB]
  · rintro ⟨k, R⟩ ⟨hk, hRl⟩
    dsimp only at hk hRl ⊢
    by_cases hlt : k < q
    · skip
      repeat (first
        | ((with_reducible apply r_build); rfl; rfl; rfl; exact (show _ = some (dgV (dg1 77)) by kernel_rfl))
        | ((with_reducible apply r_store); rfl; exact (rfl : _ = Value.pointer (some ⟨2, _, _⟩)); exact (rfl : _ = Value.agg _); exact storeD_dg (i := k) rfl rfl rfl rfl (by omega) rfl; exact (rfl : _ = _ :: _))
        | ((with_reducible apply r_idxS (j := k * 32)); rfl; rfl; exact (rfl : _ = Value.slice (some ⟨_, _, _⟩) _ _); (exact (rfl : _ = Value.int _ _)); (exact (rfl : _ = some (_, 32))); omega; omega; omega)
        | ((with_reducible apply r_move); rfl; rfl; (first
        | exact (rfl : _ = Value.int _ _)
        | exact (rfl : _ = Value.slice _ _ _)))
        | ((with_reducible apply r_assign); rfl; rfl; (exact (rfl : _ = Value.int _ _)))
        | ((with_reducible apply r_bin); rfl; rfl; (exact (rfl : _ = Value.int _ _)); (exact (rfl : _ = Value.int _ _)); (first
        | with_reducible exact lss_t (by omega)
        | with_reducible exact bin_add rfl (by omega) (by omega)))
        | ((with_reducible apply r_len); rfl; rfl; (exact (rfl : _ = Value.slice _ _ _)); (exact (rfl : _ = some (Value.int _ _))))
        | with_reducible refine r_doneN ?_
        | with_reducible refine c_reg ?_
        | with_reducible refine c_seq ?_
        | with_reducible refine c_block ?_
        | with_reducible refine c_skip ?_
        | with_reducible refine x_then ?_
        | with_reducible refine x_blockN ?_
        | ((with_reducible apply c_true); rfl))
      refine x_round ⟨(k + 1, R.set k (dg1 77)), ⟨by show k + 1 ≤ q; omega, by simpa using hRl⟩, by show q - (k + 1) < q - k; omega, ?_⟩
      refine weak_to (n := 3) rfl ?_ rfl ?_
      · skip
        repeat (first | exact trivial | refine ⟨.inl rfl, ?_⟩ | refine ⟨.inr ⟨rfl, rfl⟩, ?_⟩)
      · simp [dsR, dsB]
    · skip
      repeat (first
        | ((with_reducible apply r_callN (e := [some (0, 0), some (1, 0)]) (nid := 0) hD); rfl; rfl; rfl; rfl; rfl; rfl; rfl; refine ⟨⟨⟨rfl, rfl, by omega, by omega, by omega⟩, ⟨rfl, rfl, by omega, by omega, by omega⟩, trivial⟩, ⟨emb_ro rfl rfl (by show 0 + (dsC _).length ≤ (dsC _).length; omega) (dsC_whole _), emb_ds rfl, trivial⟩, rfl, rfl, rfl⟩; exact (rfl : _ = Value.bool true); exact (show _ = [dsR ds, dsB ds, dsB R] by kernel_rfl))
        | ((with_reducible apply r_move); rfl; rfl; (first
        | exact (rfl : _ = Value.int _ _)
        | exact (rfl : _ = Value.bool _)
        | exact (rfl : _ = Value.slice _ _ _)))
        | ((with_reducible apply r_assign); rfl; rfl; (exact (rfl : _ = Value.bool _)))
        | ((with_reducible apply r_bin); rfl; rfl; (exact (rfl : _ = Value.int _ _)); (exact (rfl : _ = Value.int _ _)); (first
        | with_reducible exact lss_f (by omega)
        | with_reducible exact eql_t (by omega)))
        | ((with_reducible apply r_pick); rfl; rfl; (exact (rfl : _ = some (Value.bool _))))
        | ((with_reducible apply r_len); rfl; rfl; (exact (rfl : _ = Value.slice _ _ _)); (exact (rfl : _ = some (Value.int _ _))))
        | ((with_reducible apply r_callP (hT)); rfl; rfl; rfl; rfl; rfl; (exact (rfl : _ = Value.bool _)))
        | with_reducible refine r_doneN ?_
        | with_reducible refine c_reg ?_
        | with_reducible refine c_seq ?_
        | with_reducible refine c_exit ?_
        | with_reducible refine c_ret ?_
        | with_reducible refine x_then ?_
        | with_reducible refine x_thenE ?_
        | with_reducible refine x_leaveE ?_
        | ((with_reducible apply c_false); rfl)
        | ((with_reducible apply x_block); rfl))
      refine x_end ?_
      exact end_same (v := .bool true) rfl rfl rfl (dsR_kept ds) rfl
set_option maxHeartbeats 8000000 in
theorem TreeGoes_ok (kk : Nat → BitVec 32) (hG : G 3 = some (rowE w32 64 kk)) (hG1 : G 1 = some (rowE u8N 64 dbF)) (hG2 : G 2 = some (rowE w32 64 kk)) (ds : List D) (c : Nat) (I : Int) (hc : ds.length ≤ c) (hm : c ≤ 9223372036854775807) (hi1 : -9223372036854775808 ≤ I) (hi2 : I ≤ 9223372036854775807) :
    CallL Tryd.prog G 5 [slv 0 0 ds.length c, .int .i64 I] [dsR ds] (.bool true) [dsR ds] := by
  refine walk (fn := Tryd.f5) (nt := 67) rfl rfl rfl rfl ?_
  generalize hn : ds.length = n at *
  by_cases h200 : 200 < n
  · skip
    repeat (first
      | ((with_reducible apply r_move); rfl; rfl; (exact (rfl : _ = Value.slice _ _ _)))
      | ((with_reducible apply r_assign); rfl; rfl; (exact (rfl : _ = Value.bool _)))
      | ((with_reducible apply r_bin); rfl; rfl; (exact (rfl : _ = Value.int _ _)); (exact (rfl : _ = Value.int _ _)); (with_reducible exact gtr_t (by omega)))
      | ((with_reducible apply r_len); rfl; rfl; (exact (rfl : _ = Value.slice _ _ _)); (exact (rfl : _ = some (Value.int _ _))))
      | with_reducible refine r_doneN ?_
      | with_reducible refine c_reg ?_
      | with_reducible refine c_seq ?_
      | with_reducible refine c_ret ?_
      | with_reducible refine x_then ?_
      | with_reducible refine x_thenR ?_
      | ((with_reducible apply c_true); rfl))
    refine x_end ?_
    exact end_same (v := .bool true) rfl rfl rfl (dsR_kept ds) rfl
  have hT := three_law (G := G) kk hG hG1
  have hO := Own_ok' (G := G) ds c n hn (by omega)
  have hD := Digests_eq (G := G) ds n n n hn (by omega)
  refine c_hole 3 (H' := [dsR ds, hole, hole, hole]) rfl ?_
  by_cases hneg : I < 0
  · have hB := Consistency_bad (G := G) ds c I (.inl (by omega))
    rw [hn] at hB
    repeat (first
      | ((with_reducible apply r_callN (e := [some (0, 0)]) (nid := 1) hO); rfl; rfl; rfl; rfl; rfl; rfl; rfl; refine ⟨⟨⟨rfl, rfl, by omega, by omega, by omega⟩, trivial⟩, ⟨emb_ro rfl rfl (by show 0 + (dsC _).length ≤ (dsC _).length; omega) (dsC_whole _), trivial⟩, rfl, rfl, rfl⟩; exact (show _ = slv 1 0 n n by kernel_rfl); exact (show _ = [dsR ds, dsB ds, hole, hole] by kernel_rfl))
      | ((with_reducible apply r_callN (e := [some (0, 0)]) (nid := 0) hB); rfl; rfl; rfl; rfl; rfl; rfl; rfl; refine ⟨⟨⟨rfl, rfl, by omega, by omega, by omega⟩, rfl, trivial⟩, ⟨emb_ro rfl rfl (by show 0 + (dsC _).length ≤ (dsC _).length; omega) (dsC_whole _), trivial⟩, rfl, rfl, rfl⟩; exact (show _ = Value.tuple #[nilS, .int .i64 21] by kernel_rfl); exact (show _ = [dsR ds, dsB ds, hole, hole] by kernel_rfl))
      | ((with_reducible apply r_move); rfl; rfl; (first
      | exact (rfl : _ = Value.int _ _)
      | exact (rfl : _ = Value.bool _)
      | exact (rfl : _ = Value.slice _ _ _)
      | exact (rfl : _ = Value.tuple _)))
      | ((with_reducible apply r_assign); rfl; rfl; (first
      | exact (rfl : _ = Value.int _ _)
      | exact (rfl : _ = Value.bool _)
      | exact (rfl : _ = Value.slice _ _ _)))
      | ((with_reducible apply r_bin); rfl; rfl; (exact (rfl : _ = Value.int _ _)); (exact (rfl : _ = Value.int _ _)); (first
      | with_reducible exact lss_t (by omega)
      | with_reducible exact gtr_f (by omega)
      | with_reducible exact eql_t (by omega)))
      | ((with_reducible apply r_pick); rfl; rfl; (exact (rfl : _ = some (Value.bool _))))
      | ((with_reducible apply r_len); rfl; rfl; (exact (rfl : _ = Value.slice _ _ _)); (exact (rfl : _ = some (Value.int _ _))))
      | ((with_reducible apply r_extract); rfl; rfl; rfl; (first
      | exact (rfl : _ = some (Value.int _ _))
      | exact (rfl : _ = some (Value.slice _ _ _))))
      | ((with_reducible apply r_skip); rfl; rfl)
      | ((with_reducible apply r_callP (hT)); rfl; rfl; rfl; rfl; rfl; (exact (rfl : _ = Value.bool _)))
      | with_reducible refine r_doneN ?_
      | with_reducible refine c_reg ?_
      | with_reducible refine c_seq ?_
      | with_reducible refine c_skip ?_
      | with_reducible refine c_ret ?_
      | with_reducible refine x_then ?_
      | with_reducible refine x_thenR ?_
      | ((with_reducible apply c_true); rfl)
      | ((with_reducible apply c_false); rfl))
    refine x_end ?_
    exact end_same (v := .bool true) rfl rfl rfl (dsR_kept ds) rfl
  by_cases hbig : (n : Int) < I
  · have hB := Consistency_bad (G := G) ds c I (.inr (by omega))
    rw [hn] at hB
    repeat (first
      | ((with_reducible apply r_callN (e := [some (0, 0)]) (nid := 1) hO); rfl; rfl; rfl; rfl; rfl; rfl; rfl; refine ⟨⟨⟨rfl, rfl, by omega, by omega, by omega⟩, trivial⟩, ⟨emb_ro rfl rfl (by show 0 + (dsC _).length ≤ (dsC _).length; omega) (dsC_whole _), trivial⟩, rfl, rfl, rfl⟩; exact (show _ = slv 1 0 n n by kernel_rfl); exact (show _ = [dsR ds, dsB ds, hole, hole] by kernel_rfl))
      | ((with_reducible apply r_callN (e := [some (0, 0)]) (nid := 0) hB); rfl; rfl; rfl; rfl; rfl; rfl; rfl; refine ⟨⟨⟨rfl, rfl, by omega, by omega, by omega⟩, rfl, trivial⟩, ⟨emb_ro rfl rfl (by show 0 + (dsC _).length ≤ (dsC _).length; omega) (dsC_whole _), trivial⟩, rfl, rfl, rfl⟩; exact (show _ = Value.tuple #[nilS, .int .i64 21] by kernel_rfl); exact (show _ = [dsR ds, dsB ds, hole, hole] by kernel_rfl))
      | ((with_reducible apply r_move); rfl; rfl; (first
      | exact (rfl : _ = Value.int _ _)
      | exact (rfl : _ = Value.bool _)
      | exact (rfl : _ = Value.slice _ _ _)
      | exact (rfl : _ = Value.tuple _)))
      | ((with_reducible apply r_assign); rfl; rfl; (first
      | exact (rfl : _ = Value.int _ _)
      | exact (rfl : _ = Value.bool _)
      | exact (rfl : _ = Value.slice _ _ _)))
      | ((with_reducible apply r_bin); rfl; rfl; (exact (rfl : _ = Value.int _ _)); (exact (rfl : _ = Value.int _ _)); (first
      | with_reducible exact lss_f (by omega)
      | with_reducible exact gtr_t (by omega)
      | with_reducible exact gtr_f (by omega)
      | with_reducible exact eql_t (by omega)))
      | ((with_reducible apply r_pick); rfl; rfl; (exact (rfl : _ = some (Value.bool _))))
      | ((with_reducible apply r_len); rfl; rfl; (exact (rfl : _ = Value.slice _ _ _)); (exact (rfl : _ = some (Value.int _ _))))
      | ((with_reducible apply r_extract); rfl; rfl; rfl; (first
      | exact (rfl : _ = some (Value.int _ _))
      | exact (rfl : _ = some (Value.slice _ _ _))))
      | ((with_reducible apply r_callP (hT)); rfl; rfl; rfl; rfl; rfl; (exact (rfl : _ = Value.bool _)))
      | with_reducible refine r_doneN ?_
      | with_reducible refine c_reg ?_
      | with_reducible refine c_seq ?_
      | with_reducible refine c_skip ?_
      | with_reducible refine c_ret ?_
      | with_reducible refine x_then ?_
      | with_reducible refine x_thenR ?_
      | ((with_reducible apply c_true); rfl)
      | ((with_reducible apply c_false); rfl))
    refine x_end ?_
    exact end_same (v := .bool true) rfl rfl rfl (dsR_kept ds) rfl
  obtain ⟨i, rfl⟩ : ∃ j : Nat, I = j := ⟨I.toNat, by omega⟩
  by_cases hz : i = 0
  · subst hz
    have hB := Consistency_zero (G := G) ds c
    rw [hn] at hB
    have hB2 := refCons_zero (G := G) kk n ds n hn
    have hN := Digests_nil (G := G)
    repeat (first
      | ((with_reducible apply r_callN (e := [some (0, 0)]) (nid := 1) hO); rfl; rfl; rfl; rfl; rfl; rfl; rfl; refine ⟨⟨⟨rfl, rfl, by omega, by omega, by omega⟩, trivial⟩, ⟨emb_ro rfl rfl (by show 0 + (dsC _).length ≤ (dsC _).length; omega) (dsC_whole _), trivial⟩, rfl, rfl, rfl⟩; exact (show _ = slv 1 0 n n by kernel_rfl); exact (show _ = [dsR ds, dsB ds, hole, hole] by kernel_rfl))
      | ((with_reducible apply r_callN (e := [some (0, 0)]) (nid := 0) hB); rfl; rfl; rfl; rfl; rfl; rfl; rfl; refine ⟨⟨⟨rfl, rfl, by omega, by omega, by omega⟩, rfl, trivial⟩, ⟨emb_ro rfl rfl (by show 0 + (dsC _).length ≤ (dsC _).length; omega) (dsC_whole _), trivial⟩, rfl, rfl, rfl⟩; exact (show _ = Value.tuple #[nilS, .int .i64 0] by kernel_rfl); exact (show _ = [dsR ds, dsB ds, hole, hole] by kernel_rfl))
      | ((with_reducible apply r_callN (e := [some (1, 0)]) (nid := 0) hB2); rfl; rfl; rfl; rfl; rfl; rfl; rfl; refine ⟨⟨⟨rfl, rfl, by omega, by omega, by omega⟩, rfl, trivial⟩, ⟨emb_ds rfl, trivial⟩, rfl, rfl, rfl⟩; exact (show _ = nilS by kernel_rfl); exact (show _ = [dsR ds, dsB ds, hole, hole] by kernel_rfl))
      | ((with_reducible apply r_move); rfl; rfl; (first
      | exact (rfl : _ = Value.int _ _)
      | exact (rfl : _ = Value.bool _)
      | exact (rfl : _ = Value.slice _ _ _)
      | exact (rfl : _ = Value.tuple _)))
      | ((with_reducible apply r_assign); rfl; rfl; (first
      | exact (rfl : _ = Value.int _ _)
      | exact (rfl : _ = Value.bool _)
      | exact (rfl : _ = Value.slice _ _ _)))
      | ((with_reducible apply r_bin); rfl; rfl; (exact (rfl : _ = Value.int _ _)); (exact (rfl : _ = Value.int _ _)); (first
      | with_reducible exact lss_f (by omega)
      | with_reducible exact gtr_f (by omega)))
      | ((with_reducible apply r_pick); rfl; rfl; (exact (rfl : _ = some (Value.bool _))))
      | ((with_reducible apply r_len); rfl; rfl; (exact (rfl : _ = Value.slice _ _ _)); (exact (rfl : _ = some (Value.int _ _))))
      | ((with_reducible apply r_extract); rfl; rfl; rfl; (first
      | exact (rfl : _ = some (Value.int _ _))
      | exact (rfl : _ = some (Value.slice _ _ _))))
      | ((with_reducible apply r_callP (hN)); rfl; rfl; rfl; rfl; rfl; (exact (rfl : _ = Value.bool _)))
      | with_reducible refine r_doneN ?_
      | with_reducible refine c_reg ?_
      | with_reducible refine c_seq ?_
      | with_reducible refine c_block ?_
      | with_reducible refine c_skip ?_
      | with_reducible refine x_then ?_
      | ((with_reducible apply c_false); rfl))
    refine c_loopN (fun _ : Nat => [slv 0 0 n c, .int .i64 (0 : Int), dead, dead, dead, slv 1 0 n n, nilS, .int .i64 0, .bool true, .int .i64 0]) (fun _ => [dsR ds, dsB ds]) (fun _ => True) (fun _ => 0) 0 trivial ?_ ?_
    · refine weak_to (n := 2) rfl ?_ rfl ?_
      · skip
        repeat (first | exact trivial | refine ⟨.inl rfl, ?_⟩ | refine ⟨.inr ⟨rfl, rfl⟩, ?_⟩)
      · simp [dsR, dsB]
    · intro _ _
      repeat (first
        | ((with_reducible apply r_callN (e := [some (0, 0), some (1, 0)]) (nid := 0) hD); rfl; rfl; rfl; rfl; rfl; rfl; rfl; refine ⟨⟨⟨rfl, rfl, by omega, by omega, by omega⟩, ⟨rfl, rfl, by omega, by omega, by omega⟩, trivial⟩, ⟨emb_ro rfl rfl (by show 0 + (dsC _).length ≤ (dsC _).length; omega) (dsC_whole _), emb_ds rfl, trivial⟩, rfl, rfl, rfl⟩; exact (rfl : _ = Value.bool true); exact (show _ = [dsR ds, dsB ds] by kernel_rfl))
        | ((with_reducible apply r_move); rfl; rfl; (first
        | exact (rfl : _ = Value.int _ _)
        | exact (rfl : _ = Value.bool _)
        | exact (rfl : _ = Value.slice _ _ _)))
        | ((with_reducible apply r_assign); rfl; rfl; (exact (rfl : _ = Value.bool _)))
        | ((with_reducible apply r_bin); rfl; rfl; (exact (rfl : _ = Value.int _ _)); (exact (rfl : _ = Value.int _ _)); (first
        | with_reducible exact lss_f (by omega)
        | with_reducible exact eql_t (by omega)))
        | ((with_reducible apply r_pick); rfl; rfl; (exact (rfl : _ = some (Value.bool _))))
        | ((with_reducible apply r_len); rfl; rfl; (exact (rfl : _ = Value.slice _ _ _)); (exact (rfl : _ = some (Value.int _ _))))
        | ((with_reducible apply r_callP (hT)); rfl; rfl; rfl; rfl; rfl; (exact (rfl : _ = Value.bool _)))
        | with_reducible refine r_doneN ?_
        | with_reducible refine c_reg ?_
        | with_reducible refine c_seq ?_
        | with_reducible refine c_exit ?_
        | with_reducible refine c_ret ?_
        | with_reducible refine x_then ?_
        | with_reducible refine x_thenE ?_
        | with_reducible refine x_leaveE ?_
        | ((with_reducible apply c_false); rfl)
        | ((with_reducible apply x_block); rfl))
      refine x_end ?_
      exact end_same (v := .bool true) rfl rfl rfl (dsR_kept ds) rfl
  have hI := Cons_ok (G := G) kk hG hG1 ds c i hn (by omega) hc (by omega) (by omega) rfl
  have hRI := refCons_ok (G := G) kk hG2 n ds n i hn (by omega) (Nat.le_refl _) (by omega) (by omega)
  have hQl : (consP kk ds i).length ≤ 1000 := by
    have := consP_short kk 8 ds i (by omega) (by omega)
    omega
  generalize consP kk ds i = Q at *
  generalize hq : Q.length = q at *
  have hD2 := Digests_eq (G := G) Q q q q hq (by omega)
  repeat (first
    | ((with_reducible apply r_callN (e := [some (0, 0)]) (nid := 1) hO); rfl; rfl; rfl; rfl; rfl; rfl; rfl; refine ⟨⟨⟨rfl, rfl, by omega, by omega, by omega⟩, trivial⟩, ⟨emb_ro rfl rfl (by show 0 + (dsC _).length ≤ (dsC _).length; omega) (dsC_whole _), trivial⟩, rfl, rfl, rfl⟩; exact (show _ = slv 1 0 n n by kernel_rfl); exact (show _ = [dsR ds, dsB ds, hole, hole] by kernel_rfl))
    | ((with_reducible apply r_callN (e := [some (0, 0)]) (nid := 2) hI); rfl; rfl; rfl; rfl; rfl; rfl; rfl; refine ⟨⟨⟨rfl, rfl, by omega, by omega, by omega⟩, rfl, trivial⟩, ⟨emb_ro rfl rfl (by show 0 + (dsC _).length ≤ (dsC _).length; omega) (dsC_whole _), trivial⟩, rfl, rfl, rfl⟩; exact (show _ = Value.tuple #[slv 2 0 q q, .int .i64 0] by kernel_rfl); exact (show _ = [dsR ds, dsB ds, dsB Q, hole] by kernel_rfl))
    | ((with_reducible apply r_callN (e := [some (1, 0)]) (nid := 3) hRI); rfl; rfl; rfl; rfl; rfl; rfl; rfl; refine ⟨⟨⟨rfl, rfl, by omega, by omega, by omega⟩, rfl, trivial⟩, ⟨emb_ds rfl, trivial⟩, rfl, rfl, rfl⟩; exact (show _ = slv 3 0 q q by kernel_rfl); exact (show _ = [dsR ds, dsB ds, dsB Q, dsB Q] by kernel_rfl))
    | ((with_reducible apply r_callN (e := [some (2, 0), some (3, 0)]) (nid := 0) hD2); rfl; rfl; rfl; rfl; rfl; rfl; rfl; refine ⟨⟨⟨rfl, rfl, by omega, by omega, by omega⟩, ⟨rfl, rfl, by omega, by omega, by omega⟩, trivial⟩, ⟨emb_ds rfl, emb_ds rfl, trivial⟩, rfl, rfl, rfl⟩; exact (rfl : _ = Value.bool true); exact (show _ = [dsR ds, dsB ds, dsB Q, dsB Q] by kernel_rfl))
    | ((with_reducible apply r_move); rfl; rfl; (first
    | exact (rfl : _ = Value.int _ _)
    | exact (rfl : _ = Value.bool _)
    | exact (rfl : _ = Value.slice _ _ _)
    | exact (rfl : _ = Value.tuple _)))
    | ((with_reducible apply r_assign); rfl; rfl; (first
    | exact (rfl : _ = Value.int _ _)
    | exact (rfl : _ = Value.bool _)
    | exact (rfl : _ = Value.slice _ _ _)))
    | ((with_reducible apply r_bin); rfl; rfl; (exact (rfl : _ = Value.int _ _)); (exact (rfl : _ = Value.int _ _)); (first
    | with_reducible exact lss_f (by omega)
    | with_reducible exact gtr_f (by omega)))
    | ((with_reducible apply r_pick); rfl; rfl; (exact (rfl : _ = some (Value.bool _))))
    | ((with_reducible apply r_len); rfl; rfl; (exact (rfl : _ = Value.slice _ _ _)); (exact (rfl : _ = some (Value.int _ _))))
    | ((with_reducible apply r_extract); rfl; rfl; rfl; (first
    | exact (rfl : _ = some (Value.int _ _))
    | exact (rfl : _ = some (Value.slice _ _ _))))
    | with_reducible refine r_doneN ?_
    | with_reducible refine c_reg ?_
    | with_reducible refine c_seq ?_
    | with_reducible refine c_block ?_
    | with_reducible refine c_skip ?_
    | with_reducible refine x_then ?_
    | ((with_reducible apply c_false); rfl))
  refine c_loopN (fun x : Nat × List D => [slv 0 0 n c, .int .i64 (i : Nat), dead, dead, dead, slv 1 0 n n, slv 2 0 q q, .int .i64 0, .bool true, .int .i64 (x.1 : Nat)]) (fun x => [dsR ds, dsB ds, dsB x.2]) (fun x => x.1 ≤ q ∧ x.2.length = q) (fun x => q - x.1) (0, Q) ⟨Nat.zero_le _, hq⟩ ?_ ?_
  · refine weak_to (n := 3) rfl ?_ rfl ?_
    · skip
      repeat (first | exact trivial | refine ⟨.inl rfl, ?_⟩ | refine ⟨.inr ⟨rfl, rfl⟩, ?_⟩)
    · simp [dsR, dsB]
  · rintro ⟨k, R⟩ ⟨hk, hRl⟩
    dsimp only at hk hRl ⊢
    by_cases hlt : k < q
    · skip
      repeat (first
        | ((with_reducible apply r_build); rfl; rfl; rfl; exact (show _ = some (dgV (dg1 77)) by kernel_rfl))
        | ((with_reducible apply r_store); rfl; exact (rfl : _ = Value.pointer (some ⟨2, _, _⟩)); exact (rfl : _ = Value.agg _); exact storeD_dg (i := k) rfl rfl rfl rfl (by omega) rfl; exact (rfl : _ = _ :: _))
        | ((with_reducible apply r_idxS (j := k * 32)); rfl; rfl; exact (rfl : _ = Value.slice (some ⟨_, _, _⟩) _ _); (exact (rfl : _ = Value.int _ _)); (exact (rfl : _ = some (_, 32))); omega; omega; omega)
        | ((with_reducible apply r_move); rfl; rfl; (first
        | exact (rfl : _ = Value.int _ _)
        | exact (rfl : _ = Value.slice _ _ _)))
        | ((with_reducible apply r_assign); rfl; rfl; (exact (rfl : _ = Value.int _ _)))
        | ((with_reducible apply r_bin); rfl; rfl; (exact (rfl : _ = Value.int _ _)); (exact (rfl : _ = Value.int _ _)); (first
        | with_reducible exact lss_t (by omega)
        | with_reducible exact bin_add rfl (by omega) (by omega)))
        | ((with_reducible apply r_len); rfl; rfl; (exact (rfl : _ = Value.slice _ _ _)); (exact (rfl : _ = some (Value.int _ _))))
        | with_reducible refine r_doneN ?_
        | with_reducible refine c_reg ?_
        | with_reducible refine c_seq ?_
        | with_reducible refine c_block ?_
        | with_reducible refine c_skip ?_
        | with_reducible refine x_then ?_
        | with_reducible refine x_blockN ?_
        | ((with_reducible apply c_true); rfl))
      refine x_round ⟨(k + 1, R.set k (dg1 77)), ⟨by show k + 1 ≤ q; omega, by simpa using hRl⟩, by show q - (k + 1) < q - k; omega, ?_⟩
      refine weak_to (n := 3) rfl ?_ rfl ?_
      · skip
        repeat (first | exact trivial | refine ⟨.inl rfl, ?_⟩ | refine ⟨.inr ⟨rfl, rfl⟩, ?_⟩)
      · simp [dsR, dsB]
    · skip
      repeat (first
        | ((with_reducible apply r_callN (e := [some (0, 0), some (1, 0)]) (nid := 0) hD); rfl; rfl; rfl; rfl; rfl; rfl; rfl; refine ⟨⟨⟨rfl, rfl, by omega, by omega, by omega⟩, ⟨rfl, rfl, by omega, by omega, by omega⟩, trivial⟩, ⟨emb_ro rfl rfl (by show 0 + (dsC _).length ≤ (dsC _).length; omega) (dsC_whole _), emb_ds rfl, trivial⟩, rfl, rfl, rfl⟩; exact (rfl : _ = Value.bool true); exact (show _ = [dsR ds, dsB ds, dsB R] by kernel_rfl))
        | ((with_reducible apply r_move); rfl; rfl; (first
        | exact (rfl : _ = Value.int _ _)
        | exact (rfl : _ = Value.bool _)
        | exact (rfl : _ = Value.slice _ _ _)))
        | ((with_reducible apply r_assign); rfl; rfl; (exact (rfl : _ = Value.bool _)))
        | ((with_reducible apply r_bin); rfl; rfl; (exact (rfl : _ = Value.int _ _)); (exact (rfl : _ = Value.int _ _)); (first
        | with_reducible exact lss_f (by omega)
        | with_reducible exact eql_t (by omega)))
        | ((with_reducible apply r_pick); rfl; rfl; (exact (rfl : _ = some (Value.bool _))))
        | ((with_reducible apply r_len); rfl; rfl; (exact (rfl : _ = Value.slice _ _ _)); (exact (rfl : _ = some (Value.int _ _))))
        | ((with_reducible apply r_callP (hT)); rfl; rfl; rfl; rfl; rfl; (exact (rfl : _ = Value.bool _)))
        | with_reducible refine r_doneN ?_
        | with_reducible refine c_reg ?_
        | with_reducible refine c_seq ?_
        | with_reducible refine c_exit ?_
        | with_reducible refine c_ret ?_
        | with_reducible refine x_then ?_
        | with_reducible refine x_thenE ?_
        | with_reducible refine x_leaveE ?_
        | ((with_reducible apply c_false); rfl)
        | ((with_reducible apply x_block); rfl))
      refine x_end ?_
      exact end_same (v := .bool true) rfl rfl rfl (dsR_kept ds) rfl
end Go.Flat
end
section
namespace Go.Proofs.YtabhbnhkobkakaaDoor
open Go.ChangeShapes Go.WideShapes Go.ChangeAt Go.RowKit
set_option linter.unusedVariables false
noncomputable def G2 : Flat.Glob := fun g => if g = 2 then some (Flat.rowE Flat.w32 64 kk) else G0 g
theorem h2G : G2 3 = some (Flat.rowE Flat.w32 64 kk) := rfl
theorem h2G1 : G2 1 = some (Flat.rowE Flat.u8N 64 Flat.dbF) := rfl
theorem h2G2 : G2 2 = some (Flat.rowE Flat.w32 64 kk) := rfl
/-- The tables that a walk reads, where the row's list is met: the reference's table among them. -/
theorem hrel_of_laid2 {W : World} {l : List (String × DataW Unit)} (hp : (l.all fun x => x.2.handleName?.isNone) = true) (h : laidMetH Tryd.prog l W)
    (h3 : ("estreat/sha.table", Rows.laid_estreat_sha_table) ∈ l) (h1 : ("math/bits.deBruijn64tab", Rows.laid_math_bits_deBruijn64tab) ∈ l) (h2 : ("estreat/estreatref02.consts", Rows.laid_estreat_estreatref02_consts) ∈ l) : Flat.HRel G2 (fun _ => none) [] W := by
  have h0 := hrel_of_laid hp h h3 h1
  refine Flat.HRel.plain fun g cs hg => ?_
  unfold G2 at hg
  split at hg
  · rename_i e
    subst e
    injection hg with hg
    subst hg
    have r := Flat.laid_reads h hp h2
    rw [show (Rows.laid_estreat_estreatref02_consts : DataW Unit) = Lib.tabData .u32 kz from by kernel_rfl] at r
    exact r.tab (g := 2) (t := 61) (e := 48) (c := 64) (by kernel_rfl) (by kernel_rfl) (by kernel_rfl) (by kernel_rfl) (by kernel_rfl) (by kernel_rfl) (by decide +kernel) (by kernel_rfl)
  · exact h0.glob g cs hg
end Go.Proofs.YtabhbnhkobkakaaDoor
end
