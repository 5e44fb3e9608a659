/- TreeLast: for every two lists and number the law returns true, and its arguments stay; the tables are tied to the program's text. -/
import Derived.Test.YtabhbnhkobkakaaDoorPlain
import Derived.Test.YtabhbnhkobkakaaDoorTree
section
set_option linter.unusedVariables false
namespace Go.Flat
open Go.Proofs
variable {G : Glob}
theorem incl_ext (kk : Nat → BitVec 32) (j i : Nat) (hi : i < 2 ^ j) : ∀ (N : Nat) (l : List D), l.length = N → 2 ^ j ≤ N → ∃ E, inclP kk l i = inclP kk (l.take (2 ^ j)) i ++ E := by
  intro N
  induction N using Nat.strongRecOn with
  | ind N ih =>
    intro l hl hN
    rcases Nat.eq_or_lt_of_le hN with he | hlt
    · exact ⟨[], by rw [List.take_of_length_le (by omega), List.append_nil]⟩
    · have hp : 0 < 2 ^ j := Nat.pow_pos (by decide)
      obtain ⟨s1, s2⟩ := splitN_pos (n := N) (by omega)
      have hk : 2 ^ j ≤ splitN N := by
        rw [splitN_eq (by omega)]
        refine Nat.pow_le_pow_right (by decide) ?_
        rw [Nat.le_log2 (by omega)]
        omega
      obtain ⟨E, hE⟩ := ih (splitN N) s2 (l.take (splitN N)) (by simp; omega) hk
      have e := inclP_lo kk (l := l) (i := i) (by omega) (by rw [hl]; omega)
      rw [hl] at e
      refine ⟨E ++ [rootI kk (l.drop (splitN N))], ?_⟩
      rw [e, hE, List.take_take, Nat.min_eq_left hk, List.append_assoc]
theorem srcA_n {H : List Blk} {b n : Nat} {B : Blk} {ds : List D} {c : Nat} (hb : H[b]? = some B) (hc : B.cells = dsC ds) (hn : ds.length = n) : srcA H 32 (slv b 0 n c) = some (n, dsC ds) := by
  subst hn; exact srcA_ds ds c hb hc
theorem appN_ds {P : Program} {H : List Blk} {t : TypeId} {q : Value} {nid n by_ : Nat} {zc : List Value} {ds : List D} (ht : sliceTyA P t = some (32, zc, by_)) (hz : (zc.length == 32 && zc.all scalC) = true) (hs : srcA H 32 q = some (n, dsC ds)) (hby : 0 < by_) (hm : n * by_ ≤ 140737488355328) (hf : freeA H nid = true) :
    appN P H t nilS q nid = some (slv nid 0 n n, dsB ds) := by
  rw [Bool.and_eq_true, beq_iff_eq] at hz
  unfold appN
  rw [ht]
  simp only [hs, Option.bind_some]
  rw [if_pos ⟨trivial, trivial, hz.1, by rw [hz.2]; exact dsC_pure ds, by decide, hby, hm, hf⟩, hz.2]
  rfl
theorem appD_ds {P : Program} {H : List Blk} {t : TypeId} {q : Value} {b c n k n' by_ : Nat} {zc : List Value} {ls ms : List D} (ht : sliceTyA P t = some (32, zc, by_)) (hz : zc.length = 32) (hs : srcA H 32 q = some (k, dsC ms)) (hb : H[b]? = some (dsB ls)) (hn : ls.length = n) (hk : n + k = n') (hby : 0 < by_) (hm : n' * by_ ≤ 140737488355328) :
    appD P H t (slv b 0 n c) q = some (slv b 0 n' n', b, dsB (ls ++ ms)) := by
  have hc : (dsB ls).cells.length = n * 32 := by show (dsC ls).length = _; rw [dsC_len, hn]
  rw [appD_pure (n' := n') (p := (k, dsC ms)) ht hs hb rfl rfl hz (dsC_pure ms) (by rw [hc]; omega) hby hk hm]
  have : List.take (n * 32) (List.drop 0 (dsB ls).cells) ++ dsC ms = dsC (ls ++ ms) := by
    rw [List.drop_zero, List.take_of_length_le (by rw [hc]; exact Nat.le_refl _), dsC_app]; rfl
  simp only [this]
  rfl
theorem emb_pre2 {H : List Blk} {e : Emb} {id : Nat} {P E : List D} (hB : H[id]? = some (dsB (P ++ E))) : embOneM H e (some (id, 0)) (dsR P) := by
  refine emb_ro hB rfl ?_ ?_
  · show 0 + (dsC _).length ≤ (dsC _).length
    rw [dsC_app, List.length_append]; omega
  · show ((dsC (P ++ E)).drop 0).take (dsC P).length = dsC P
    rw [List.drop_zero, dsC_app, List.take_append_of_le_length (Nat.le_refl _), List.take_of_length_le (Nat.le_refl _)]
theorem kept2 (a b : List D) : (([dsR a, dsR b] : List Blk).all (keptB ([dsR a, dsR b] : List Blk).length)) = true := by simp [keptB, dsR]
set_option maxHeartbeats 8000000 in
theorem TreeLast_ok (kk : Nat → BitVec 32) (hG : G 3 = some (rowE w32 64 kk)) (hG1 : G 1 = some (rowE u8N 64 dbF)) (ds ms : List D) (c c' : Nat) (I : Int) (hc : ds.length ≤ c) (hcm : ms.length ≤ c') (hu : c ≤ 9223372036854775807) (hu' : c' ≤ 9223372036854775807) (hi1 : -9223372036854775808 ≤ I) (hi2 : I ≤ 9223372036854775807) :
    CallL Tryd.prog G 7 [slv 0 0 ds.length c, slv 1 0 ms.length c', .int .i64 I] [dsR ds, dsR ms] (.bool true) [dsR ds, dsR ms] := by
  refine walk (fn := Tryd.f7) (nt := 92) rfl rfl rfl rfl ?_
  generalize hn : ds.length = n at *
  generalize hm : ms.length = m at *
  have hT := three_law (G := G) kk hG hG1
  have hS := Split_ok (G := G) (n : Int) (by omega)
  by_cases h200 : 200 < n
  · skip
    repeat (first
      | ((with_reducible apply r_move); rfl; rfl; (first
      | exact (rfl : _ = Value.bool _)
      | exact (rfl : _ = Value.slice _ _ _)))
      | ((with_reducible apply r_assign); rfl; rfl; (exact (rfl : _ = Value.bool _)))
      | ((with_reducible apply r_bin); rfl; rfl; (exact (rfl : _ = Value.int _ _)); (exact (rfl : _ = Value.int _ _)); (with_reducible exact gtr_t (by omega)))
      | ((with_reducible apply r_pick); rfl; rfl; (exact (rfl : _ = some (Value.bool _))))
      | ((with_reducible apply r_len); rfl; rfl; (exact (rfl : _ = Value.slice _ _ _)); (exact (rfl : _ = some (Value.int _ _))))
      | ((with_reducible apply r_skip); rfl; rfl)
      | ((with_reducible apply r_callP (hT)); rfl; rfl; rfl; rfl; rfl; (exact (rfl : _ = Value.bool _)))
      | with_reducible refine r_doneN ?_
      | with_reducible refine c_reg ?_
      | with_reducible refine c_seq ?_
      | with_reducible refine c_ret ?_
      | with_reducible refine x_then ?_
      | with_reducible refine x_thenR ?_
      | ((with_reducible apply c_true); rfl))
    refine x_end ?_
    exact end_same (v := .bool true) rfl rfl rfl (kept2 ds ms) rfl
  by_cases m200 : 200 < m
  · skip
    repeat (first
      | ((with_reducible apply r_move); rfl; rfl; (first
      | exact (rfl : _ = Value.bool _)
      | exact (rfl : _ = Value.slice _ _ _)))
      | ((with_reducible apply r_assign); rfl; rfl; (exact (rfl : _ = Value.bool _)))
      | ((with_reducible apply r_bin); rfl; rfl; (exact (rfl : _ = Value.int _ _)); (exact (rfl : _ = Value.int _ _)); (first
      | with_reducible exact gtr_t (by omega)
      | with_reducible exact gtr_f (by omega)))
      | ((with_reducible apply r_pick); rfl; rfl; (exact (rfl : _ = some (Value.bool _))))
      | ((with_reducible apply r_len); rfl; rfl; (exact (rfl : _ = Value.slice _ _ _)); (exact (rfl : _ = some (Value.int _ _))))
      | ((with_reducible apply r_skip); rfl; rfl)
      | ((with_reducible apply r_callP (hT)); rfl; rfl; rfl; rfl; rfl; (exact (rfl : _ = Value.bool _)))
      | with_reducible refine r_doneN ?_
      | with_reducible refine c_reg ?_
      | with_reducible refine c_seq ?_
      | with_reducible refine c_ret ?_
      | with_reducible refine x_then ?_
      | with_reducible refine x_thenR ?_
      | ((with_reducible apply c_true); rfl))
    refine x_end ?_
    exact end_same (v := .bool true) rfl rfl rfl (kept2 ds ms) rfl
  by_cases h1 : n < 1
  · skip
    repeat (first
      | ((with_reducible apply r_move); rfl; rfl; (first
      | exact (rfl : _ = Value.bool _)
      | exact (rfl : _ = Value.slice _ _ _)))
      | ((with_reducible apply r_assign); rfl; rfl; (exact (rfl : _ = Value.bool _)))
      | ((with_reducible apply r_bin); rfl; rfl; (exact (rfl : _ = Value.int _ _)); (exact (rfl : _ = Value.int _ _)); (first
      | with_reducible exact lss_t (by omega)
      | with_reducible exact gtr_f (by omega)))
      | ((with_reducible apply r_pick); rfl; rfl; (exact (rfl : _ = some (Value.bool _))))
      | ((with_reducible apply r_len); rfl; rfl; (exact (rfl : _ = Value.slice _ _ _)); (exact (rfl : _ = some (Value.int _ _))))
      | ((with_reducible apply r_skip); rfl; rfl)
      | ((with_reducible apply r_callP (hT)); rfl; rfl; rfl; rfl; rfl; (exact (rfl : _ = Value.bool _)))
      | with_reducible refine r_doneN ?_
      | with_reducible refine c_reg ?_
      | with_reducible refine c_seq ?_
      | with_reducible refine c_ret ?_
      | with_reducible refine x_then ?_
      | with_reducible refine x_thenR ?_
      | ((with_reducible apply c_true); rfl))
    refine x_end ?_
    exact end_same (v := .bool true) rfl rfl rfl (kept2 ds ms) rfl
  have hpow : n = 1 ∨ 1 < n := by omega
  have hspl : 1 < n → ∃ k : Nat, splitF (n : Int) = k ∧ k < n ∧ (2 * k = n → ∃ j, n = 2 ^ j) := by
    intro h
    obtain ⟨s1, s2, s3⟩ := splitF_pos (n := n) (by omega)
    refine ⟨splitN n, s3, s2, fun h2 => ⟨(n - 1).log2 + 1, ?_⟩⟩
    rw [Nat.pow_succ, ← splitN_eq (by omega)]; omega
  by_cases hbad : 1 < n ∧ 2 * splitF (n : Int) ≠ n
  · obtain ⟨hb1, hb2⟩ := hbad
    obtain ⟨k, k1, k2, k3⟩ := hspl hb1
    rw [k1] at hS hb2
    repeat (first
      | ((with_reducible apply r_move); rfl; rfl; (first
      | exact (rfl : _ = Value.bool _)
      | exact (rfl : _ = Value.slice _ _ _)))
      | ((with_reducible apply r_assign); rfl; rfl; (exact (rfl : _ = Value.bool _)))
      | ((with_reducible apply r_bin); rfl; rfl; (exact (rfl : _ = Value.int _ _)); (exact (rfl : _ = Value.int _ _)); (first
      | with_reducible exact lss_f (by omega)
      | with_reducible exact gtr_t (by omega)
      | with_reducible exact gtr_f (by omega)
      | with_reducible exact neq_t (by omega)
      | with_reducible exact bin_mul rfl (by omega) (by omega)))
      | ((with_reducible apply r_pick); rfl; rfl; (exact (rfl : _ = some (Value.bool _))))
      | ((with_reducible apply r_len); rfl; rfl; (exact (rfl : _ = Value.slice _ _ _)); (exact (rfl : _ = some (Value.int _ _))))
      | ((with_reducible apply r_skip); rfl; rfl)
      | ((with_reducible apply r_callP (hT)); rfl; rfl; rfl; rfl; rfl; (exact (rfl : _ = Value.bool _)))
      | ((with_reducible apply r_callP (hS)); rfl; rfl; rfl; rfl; rfl; (exact (rfl : _ = Value.int _ _)))
      | with_reducible refine r_doneN ?_
      | with_reducible refine c_reg ?_
      | with_reducible refine c_seq ?_
      | with_reducible refine c_ret ?_
      | with_reducible refine x_then ?_
      | with_reducible refine x_thenR ?_
      | ((with_reducible apply c_true); rfl))
    refine x_end ?_
    exact end_same (v := .bool true) rfl rfl rfl (kept2 ds ms) rfl
  have hj : ∃ j, n = 2 ^ j := by
    rcases hpow with h | h
    · exact ⟨0, h⟩
    · obtain ⟨k, k1, k2, k3⟩ := hspl h
      refine k3 ?_
      rw [k1] at hbad
      clear k3 hspl
      omega
  have hsp2 : ∃ k : Nat, splitF (n : Int) = k ∧ k ≤ n ∧ (1 < n → 2 * (k : Int) = n) := by
    clear hj
    rcases hpow with h | h
    · refine ⟨0, by unfold splitF; rw [if_pos (by omega)]; rfl, by omega, by omega⟩
    · obtain ⟨k, k1, k2, k3⟩ := hspl h
      refine ⟨k, k1, by omega, fun _ => ?_⟩
      rw [k1] at hbad
      clear k3 hspl
      omega
  obtain ⟨k, k1, k2, k3⟩ := hsp2
  rw [k1] at hS
  clear hspl hbad k1
  by_cases hneg : I < 0
  · by_cases hb1 : 1 < n
    · have k4 := k3 hb1
      repeat (first
        | ((with_reducible apply r_move); rfl; rfl; (first
        | exact (rfl : _ = Value.int _ _)
        | exact (rfl : _ = Value.bool _)
        | exact (rfl : _ = Value.slice _ _ _)))
        | ((with_reducible apply r_assign); rfl; rfl; (exact (rfl : _ = Value.bool _)))
        | ((with_reducible apply r_bin); rfl; rfl; (exact (rfl : _ = Value.int _ _)); (exact (rfl : _ = Value.int _ _)); (first
        | with_reducible exact lss_t (by omega)
        | with_reducible exact lss_f (by omega)
        | with_reducible exact gtr_t (by omega)
        | with_reducible exact gtr_f (by omega)
        | with_reducible exact neq_f (by omega)
        | with_reducible exact bin_mul rfl (by omega) (by omega)))
        | ((with_reducible apply r_pick); rfl; rfl; (exact (rfl : _ = some (Value.bool _))))
        | ((with_reducible apply r_len); rfl; rfl; (exact (rfl : _ = Value.slice _ _ _)); (exact (rfl : _ = some (Value.int _ _))))
        | ((with_reducible apply r_skip); rfl; rfl)
        | ((with_reducible apply r_callP (hT)); rfl; rfl; rfl; rfl; rfl; (exact (rfl : _ = Value.bool _)))
        | ((with_reducible apply r_callP (hS)); rfl; rfl; rfl; rfl; rfl; (exact (rfl : _ = Value.int _ _)))
        | with_reducible refine r_doneN ?_
        | with_reducible refine c_reg ?_
        | with_reducible refine c_seq ?_
        | with_reducible refine c_ret ?_
        | with_reducible refine x_then ?_
        | with_reducible refine x_thenR ?_
        | ((with_reducible apply c_true); rfl))
      refine x_end ?_
      exact end_same (v := .bool true) rfl rfl rfl (kept2 ds ms) rfl
    · skip
      repeat (first
        | ((with_reducible apply r_move); rfl; rfl; (first
        | exact (rfl : _ = Value.int _ _)
        | exact (rfl : _ = Value.bool _)
        | exact (rfl : _ = Value.slice _ _ _)))
        | ((with_reducible apply r_assign); rfl; rfl; (exact (rfl : _ = Value.bool _)))
        | ((with_reducible apply r_bin); rfl; rfl; (exact (rfl : _ = Value.int _ _)); (exact (rfl : _ = Value.int _ _)); (first
        | with_reducible exact lss_t (by omega)
        | with_reducible exact lss_f (by omega)
        | with_reducible exact gtr_f (by omega)))
        | ((with_reducible apply r_pick); rfl; rfl; (exact (rfl : _ = some (Value.bool _))))
        | ((with_reducible apply r_len); rfl; rfl; (exact (rfl : _ = Value.slice _ _ _)); (exact (rfl : _ = some (Value.int _ _))))
        | ((with_reducible apply r_skip); rfl; rfl)
        | ((with_reducible apply r_callP (hT)); rfl; rfl; rfl; rfl; rfl; (exact (rfl : _ = Value.bool _)))
        | with_reducible refine r_doneN ?_
        | with_reducible refine c_reg ?_
        | with_reducible refine c_seq ?_
        | with_reducible refine c_ret ?_
        | with_reducible refine x_then ?_
        | with_reducible refine x_thenR ?_
        | ((with_reducible apply c_true); rfl))
      refine x_end ?_
      exact end_same (v := .bool true) rfl rfl rfl (kept2 ds ms) rfl
  obtain ⟨i, rfl⟩ : ∃ j : Nat, I = j := ⟨I.toNat, by omega⟩
  by_cases hin : n ≤ i
  · by_cases hb1 : 1 < n
    · have k4 := k3 hb1
      repeat (first
        | ((with_reducible apply r_move); rfl; rfl; (first
        | exact (rfl : _ = Value.int _ _)
        | exact (rfl : _ = Value.bool _)
        | exact (rfl : _ = Value.slice _ _ _)))
        | ((with_reducible apply r_assign); rfl; rfl; (exact (rfl : _ = Value.bool _)))
        | ((with_reducible apply r_bin); rfl; rfl; (exact (rfl : _ = Value.int _ _)); (exact (rfl : _ = Value.int _ _)); (first
        | with_reducible exact lss_f (by omega)
        | with_reducible exact gtr_t (by omega)
        | with_reducible exact gtr_f (by omega)
        | with_reducible exact geq_t (by omega)
        | with_reducible exact neq_f (by omega)
        | with_reducible exact bin_mul rfl (by omega) (by omega)))
        | ((with_reducible apply r_pick); rfl; rfl; (exact (rfl : _ = some (Value.bool _))))
        | ((with_reducible apply r_len); rfl; rfl; (exact (rfl : _ = Value.slice _ _ _)); (exact (rfl : _ = some (Value.int _ _))))
        | ((with_reducible apply r_callP (hT)); rfl; rfl; rfl; rfl; rfl; (exact (rfl : _ = Value.bool _)))
        | ((with_reducible apply r_callP (hS)); rfl; rfl; rfl; rfl; rfl; (exact (rfl : _ = Value.int _ _)))
        | with_reducible refine r_doneN ?_
        | with_reducible refine c_reg ?_
        | with_reducible refine c_seq ?_
        | with_reducible refine c_ret ?_
        | with_reducible refine x_then ?_
        | with_reducible refine x_thenR ?_
        | ((with_reducible apply c_true); rfl))
      refine x_end ?_
      exact end_same (v := .bool true) rfl rfl rfl (kept2 ds ms) rfl
    · skip
      repeat (first
        | ((with_reducible apply r_move); rfl; rfl; (first
        | exact (rfl : _ = Value.int _ _)
        | exact (rfl : _ = Value.bool _)
        | exact (rfl : _ = Value.slice _ _ _)))
        | ((with_reducible apply r_assign); rfl; rfl; (exact (rfl : _ = Value.bool _)))
        | ((with_reducible apply r_bin); rfl; rfl; (exact (rfl : _ = Value.int _ _)); (exact (rfl : _ = Value.int _ _)); (first
        | with_reducible exact lss_f (by omega)
        | with_reducible exact gtr_f (by omega)
        | with_reducible exact geq_t (by omega)))
        | ((with_reducible apply r_pick); rfl; rfl; (exact (rfl : _ = some (Value.bool _))))
        | ((with_reducible apply r_len); rfl; rfl; (exact (rfl : _ = Value.slice _ _ _)); (exact (rfl : _ = some (Value.int _ _))))
        | ((with_reducible apply r_skip); rfl; rfl)
        | ((with_reducible apply r_callP (hT)); rfl; rfl; rfl; rfl; rfl; (exact (rfl : _ = Value.bool _)))
        | with_reducible refine r_doneN ?_
        | with_reducible refine c_reg ?_
        | with_reducible refine c_seq ?_
        | with_reducible refine c_ret ?_
        | with_reducible refine x_then ?_
        | with_reducible refine x_thenR ?_
        | ((with_reducible apply c_true); rfl))
      refine x_end ?_
      exact end_same (v := .bool true) rfl rfl rfl (kept2 ds ms) rfl
  obtain ⟨j, hj⟩ := hj
  have hlen : (ds ++ ms).length = n + m := by simp [hn, hm]
  obtain ⟨E, hE⟩ := incl_ext kk j i (by omega) (n + m) (ds ++ ms) hlen (by omega)
  rw [← hj, List.take_append_of_le_length (by omega), List.take_of_length_le (by omega)] at hE
  have hI := Incl_ok (G := G) kk hG hG1 ds c i hn (by omega) hc (by omega) rfl
  have hI2 := Incl_ok (G := G) kk hG hG1 (ds ++ ms) (n + m) i (q := (inclP kk ds i).length + E.length) hlen (by omega) (by omega) (by omega) (by rw [hE]; simp)
  rw [hE] at hI2
  have hPl := inclP_len kk n ds i (by omega)
  have hPl2 := inclP_len kk (n + m) (ds ++ ms) i (by omega)
  rw [hE, List.length_append, hlen] at hPl2
  rw [hn] at hPl
  clear hE
  generalize inclP kk ds i = Q at *
  have hD := Digests_ok (G := G) Q Q Q.length Q.length (by omega) (by omega)
  rw [sameDs_refl] at hD
  refine c_hole 3 (H' := [dsR ds, dsR ms, hole, hole, hole]) rfl ?_
  by_cases hb1 : 1 < n
  · have k4 := k3 hb1
    repeat (first
      | ((with_reducible apply r_appN (nid := 2)); rfl; rfl; rfl; exact .inl ⟨_, rfl⟩; exact (rfl : _ = nilS); exact (rfl : _ = Value.slice (some ⟨_, _, _⟩) _ _); exact appN_ds (n := n) (ds := ds) (rfl : _ = some (32, _, 32)) rfl (srcA_n rfl rfl hn) (by decide) (by omega) rfl; exact (show _ = [dsR ds, dsR ms, dsB ds, hole, hole] by kernel_rfl))
      | ((with_reducible apply r_append); rfl; rfl; rfl; exact .inl ⟨_, rfl⟩; exact (rfl : _ = Value.slice (some ⟨_, _, _⟩) _ _); exact (rfl : _ = Value.slice (some ⟨_, _, _⟩) _ _); exact appD_ds (n := n) (k := m) (n' := n + m) (ls := ds) (ms := ms) (rfl : _ = some (32, _, 32)) rfl (srcA_n rfl rfl hm) rfl hn rfl (by decide) (by omega); rfl; exact (show _ = [dsR ds, dsR ms, dsB (ds ++ ms), hole, hole] by kernel_rfl))
      | ((with_reducible apply r_callN (e := [some (0, 0)]) (nid := 3) hI); rfl; rfl; rfl; rfl; rfl; rfl; rfl; refine ⟨⟨⟨rfl, rfl, by omega, by omega, by omega⟩, rfl, trivial⟩, ⟨emb_ro rfl rfl (by show 0 + (dsC _).length ≤ (dsC _).length; omega) (dsC_whole _), trivial⟩, rfl, rfl, rfl⟩; exact (show _ = Value.tuple #[slv 3 0 Q.length Q.length, .int .i64 0] by kernel_rfl); exact (show _ = [dsR ds, dsR ms, dsB (ds ++ ms), dsB Q, hole] by kernel_rfl))
      | ((with_reducible apply r_callN (e := [some (2, 0)]) (nid := 4) hI2); rfl; rfl; rfl; rfl; rfl; rfl; rfl; refine ⟨⟨⟨rfl, rfl, by omega, by omega, by omega⟩, rfl, trivial⟩, ⟨emb_ds rfl, trivial⟩, rfl, rfl, rfl⟩; exact (show _ = Value.tuple #[slv 4 0 (Q.length + E.length) (Q.length + E.length), .int .i64 0] by kernel_rfl); exact (show _ = [dsR ds, dsR ms, dsB (ds ++ ms), dsB Q, dsB (Q ++ E)] by kernel_rfl))
      | ((with_reducible apply r_slice); rfl; rfl; exact (rfl : _ = Value.slice (some ⟨_, _, _⟩) _ _); rfl; rfl; exact slice_hi (h := Q.length) rfl rfl rfl (by omega) rfl)
      | ((with_reducible apply r_callN (e := [some (4, 0), some (3, 0)]) (nid := 0) hD); rfl; rfl; rfl; rfl; rfl; rfl; rfl; refine ⟨⟨⟨rfl, rfl, rfl, by omega, by omega⟩, ⟨rfl, rfl, rfl, by omega, by omega⟩, trivial⟩, ⟨emb_pre2 rfl, emb_ds rfl, trivial⟩, rfl, rfl, rfl⟩; exact (rfl : _ = Value.bool true); exact (rfl : _ = _ :: _))
      | ((with_reducible apply r_move); rfl; rfl; (first
      | exact (rfl : _ = Value.int _ _)
      | exact (rfl : _ = Value.bool _)
      | exact (rfl : _ = Value.slice _ _ _)
      | exact (rfl : _ = Value.tuple _)))
      | ((with_reducible apply r_assign); rfl; rfl; (first
      | exact (rfl : _ = Value.int _ _)
      | exact (rfl : _ = Value.bool _)
      | exact (rfl : _ = Value.slice _ _ _)))
      | ((with_reducible apply r_bin); rfl; rfl; (exact (rfl : _ = Value.int _ _)); (exact (rfl : _ = Value.int _ _)); (first
      | with_reducible exact lss_f (by omega)
      | with_reducible exact gtr_t (by omega)
      | with_reducible exact gtr_f (by omega)
      | with_reducible exact geq_t (by omega)
      | with_reducible exact geq_f (by omega)
      | with_reducible exact eql_t (by omega)
      | with_reducible exact neq_f (by omega)
      | with_reducible exact bin_mul rfl (by omega) (by omega)))
      | ((with_reducible apply r_pick); rfl; rfl; (exact (rfl : _ = some (Value.bool _))))
      | ((with_reducible apply r_len); rfl; rfl; (exact (rfl : _ = Value.slice _ _ _)); (exact (rfl : _ = some (Value.int _ _))))
      | ((with_reducible apply r_extract); rfl; rfl; rfl; (first
      | exact (rfl : _ = some (Value.int _ _))
      | exact (rfl : _ = some (Value.slice _ _ _))))
      | ((with_reducible apply r_callP (hT)); rfl; rfl; rfl; rfl; rfl; (exact (rfl : _ = Value.bool _)))
      | ((with_reducible apply r_callP (hS)); rfl; rfl; rfl; rfl; rfl; (exact (rfl : _ = Value.int _ _)))
      | with_reducible refine r_doneN ?_
      | with_reducible refine c_reg ?_
      | with_reducible refine c_seq ?_
      | with_reducible refine c_skip ?_
      | with_reducible refine c_ret ?_
      | with_reducible refine x_then ?_
      | ((with_reducible apply c_false); rfl))
    refine x_end ?_
    exact end_same (v := .bool true) rfl rfl rfl (kept2 ds ms) rfl
  · skip
    repeat (first
      | ((with_reducible apply r_appN (nid := 2)); rfl; rfl; rfl; exact .inl ⟨_, rfl⟩; exact (rfl : _ = nilS); exact (rfl : _ = Value.slice (some ⟨_, _, _⟩) _ _); exact appN_ds (n := n) (ds := ds) (rfl : _ = some (32, _, 32)) rfl (srcA_n rfl rfl hn) (by decide) (by omega) rfl; exact (show _ = [dsR ds, dsR ms, dsB ds, hole, hole] by kernel_rfl))
      | ((with_reducible apply r_append); rfl; rfl; rfl; exact .inl ⟨_, rfl⟩; exact (rfl : _ = Value.slice (some ⟨_, _, _⟩) _ _); exact (rfl : _ = Value.slice (some ⟨_, _, _⟩) _ _); exact appD_ds (n := n) (k := m) (n' := n + m) (ls := ds) (ms := ms) (rfl : _ = some (32, _, 32)) rfl (srcA_n rfl rfl hm) rfl hn rfl (by decide) (by omega); rfl; exact (show _ = [dsR ds, dsR ms, dsB (ds ++ ms), hole, hole] by kernel_rfl))
      | ((with_reducible apply r_callN (e := [some (0, 0)]) (nid := 3) hI); rfl; rfl; rfl; rfl; rfl; rfl; rfl; refine ⟨⟨⟨rfl, rfl, by omega, by omega, by omega⟩, rfl, trivial⟩, ⟨emb_ro rfl rfl (by show 0 + (dsC _).length ≤ (dsC _).length; omega) (dsC_whole _), trivial⟩, rfl, rfl, rfl⟩; exact (show _ = Value.tuple #[slv 3 0 Q.length Q.length, .int .i64 0] by kernel_rfl); exact (show _ = [dsR ds, dsR ms, dsB (ds ++ ms), dsB Q, hole] by kernel_rfl))
      | ((with_reducible apply r_callN (e := [some (2, 0)]) (nid := 4) hI2); rfl; rfl; rfl; rfl; rfl; rfl; rfl; refine ⟨⟨⟨rfl, rfl, by omega, by omega, by omega⟩, rfl, trivial⟩, ⟨emb_ds rfl, trivial⟩, rfl, rfl, rfl⟩; exact (show _ = Value.tuple #[slv 4 0 (Q.length + E.length) (Q.length + E.length), .int .i64 0] by kernel_rfl); exact (show _ = [dsR ds, dsR ms, dsB (ds ++ ms), dsB Q, dsB (Q ++ E)] by kernel_rfl))
      | ((with_reducible apply r_slice); rfl; rfl; exact (rfl : _ = Value.slice (some ⟨_, _, _⟩) _ _); rfl; rfl; exact slice_hi (h := Q.length) rfl rfl rfl (by omega) rfl)
      | ((with_reducible apply r_callN (e := [some (4, 0), some (3, 0)]) (nid := 0) hD); rfl; rfl; rfl; rfl; rfl; rfl; rfl; refine ⟨⟨⟨rfl, rfl, rfl, by omega, by omega⟩, ⟨rfl, rfl, rfl, by omega, by omega⟩, trivial⟩, ⟨emb_pre2 rfl, emb_ds rfl, trivial⟩, rfl, rfl, rfl⟩; exact (rfl : _ = Value.bool true); exact (rfl : _ = _ :: _))
      | ((with_reducible apply r_move); rfl; rfl; (first
      | exact (rfl : _ = Value.int _ _)
      | exact (rfl : _ = Value.bool _)
      | exact (rfl : _ = Value.slice _ _ _)
      | exact (rfl : _ = Value.tuple _)))
      | ((with_reducible apply r_assign); rfl; rfl; (first
      | exact (rfl : _ = Value.int _ _)
      | exact (rfl : _ = Value.bool _)
      | exact (rfl : _ = Value.slice _ _ _)))
      | ((with_reducible apply r_bin); rfl; rfl; (exact (rfl : _ = Value.int _ _)); (exact (rfl : _ = Value.int _ _)); (first
      | with_reducible exact lss_f (by omega)
      | with_reducible exact gtr_f (by omega)
      | with_reducible exact geq_t (by omega)
      | with_reducible exact geq_f (by omega)
      | with_reducible exact eql_t (by omega)))
      | ((with_reducible apply r_pick); rfl; rfl; (exact (rfl : _ = some (Value.bool _))))
      | ((with_reducible apply r_len); rfl; rfl; (exact (rfl : _ = Value.slice _ _ _)); (exact (rfl : _ = some (Value.int _ _))))
      | ((with_reducible apply r_extract); rfl; rfl; rfl; (first
      | exact (rfl : _ = some (Value.int _ _))
      | exact (rfl : _ = some (Value.slice _ _ _))))
      | ((with_reducible apply r_skip); rfl; rfl)
      | ((with_reducible apply r_callP (hT)); rfl; rfl; rfl; rfl; rfl; (exact (rfl : _ = Value.bool _)))
      | with_reducible refine r_doneN ?_
      | with_reducible refine c_reg ?_
      | with_reducible refine c_seq ?_
      | with_reducible refine c_skip ?_
      | with_reducible refine c_ret ?_
      | with_reducible refine x_then ?_
      | ((with_reducible apply c_false); rfl))
    refine x_end ?_
    exact end_same (v := .bool true) rfl rfl rfl (kept2 ds ms) rfl
end Go.Flat
end
section
namespace Go.Proofs.YtabhbnhkobkakaaDoor
open Go.ChangeShapes Go.WideShapes Go.ChangeAt Go.RowKit
set_option linter.unusedVariables false
set_option maxRecDepth 100000 in
theorem treeLast_lifted (os : Os) (started : os.Started) (H : Type) (enc : TypeId × Value → H) :
    ReturnsInHanded {} Tryd.checked os 7 .any (fun w args => (Rows.treeLastSpec.pre enc Tryd.prog Tryd.f7 Rows.treeLastRow.domain false w args ∧ laidMetH Tryd.prog Rows.treeLastRow.laid w) ∧ sizedMet enc Tryd.prog Tryd.f7 (OpenSpec.ofChange Rows.treeLastSpec) false w args)
      (Rows.treeLastSpec.post enc Tryd.prog Tryd.f7 false true false false) := by
  refine returnsInHanded_of_change_and (C := Tryd.checked) (X := fun w _ => laidMetH Tryd.prog Rows.treeLastRow.laid w) (fun _ _ _ hh h => h.of_heap hh) own started (by kernel_rfl) Tryd.func7
    (ChangeSpec.witness_shaped (enc := enc) (C := Tryd.checked) (os := os) (X := fun w _ => laidMetH Tryd.prog Rows.treeLastRow.laid w) false (World.laidAll Tryd.prog os Rows.treeLastRow.laid) #[.slice none 0 0, .slice none 0 0, .int .i64 0] 8 (World.laidAll_os _ _ _)
      (World.shaped_of_ZipB (by kernel_rfl) (by kernel_rfl)) (by kernel_rfl) (by kernel_rfl) (by kernel_rfl)
      (by rw [MakeChecks.laidMetH_plain _ _ _ (by kernel_rfl)]; exact laidMet_laidAll _ (by kernel_rfl) (by kernel_rfl))) ?_
  intro W base args ds gs before hval0 hW hc _ hL _
  have hval : ∀ (j : Nat) t v, Tryd.f7.params[j]? = some t → args[j]? = some v → Value.okWide Tryd.prog W .any base t v := hval0
  have hW' := hW
  obtain ⟨p, q, hA0, hV, _, _, _⟩ := hW'
  have hA : DataW.TrodAll enc Tryd.prog W 0 (fun _ => true) true Tryd.f7.params.toList args.toList ds p := hA0
  rw [Tryd.params7] at hA hval
  obtain ⟨v0, v1, v2, d0, d1, d2, p0, p1, p2, rfl, rfl, rfl, h0, h1, h2⟩ := trodAll_three hA
  have hrel0 := hrel_of_laid (by kernel_rfl) hL (by simp [Rows.treeLastRow]) (by simp [Rows.treeLastRow])
  have hro0 : ∀ (b : Nat) (r : Flat.Reg), (fun _ => none : Flat.MapM) b = some r → r.wr = false := fun _ _ h => by cases h
  obtain ⟨ds0, c0, m0, l0, u0, hrel1, hro1, hext0, hv0⟩ := hrel0.addDs hro0 Tryd.underlying22 Tryd.underlying26 Tryd.underlying5 (by kernel_rfl) (by kernel_rfl) (hval 0 22 v0 rfl rfl) h0
  obtain ⟨ds1, c1, m1, l1, u1, hrel2, hro2, hext1, hv1⟩ := hrel1.addDs hro1 Tryd.underlying22 Tryd.underlying26 Tryd.underlying5 (by kernel_rfl) (by kernel_rfl) (hval 1 22 v1 rfl rfl) h1
  obtain ⟨x2, rfl, _, _, wx2⟩ := open_int Tryd.underlying3 (hval 2 3 v2 rfl rfl) h2
  have b2 : -9223372036854775808 ≤ x2 ∧ x2 ≤ 9223372036854775807 := by
    rw [Lit.wf, Bool.and_eq_true] at wx2
    exact ⟨of_decide_eq_true wx2.1, of_decide_eq_true wx2.2⟩
  exact Flat.law_calls (argsL := [Flat.slv 0 0 ds0.length c0, Flat.slv 1 0 ds1.length c1, .int .i64 x2]) hW rfl rfl rfl Tryd.underlying4 (by kernel_rfl) (by kernel_rfl) hro2 hrel2 (Flat.L2.cons ((hv0).mono hext1) (Flat.L2.cons (hv1) (Flat.L2.cons (rfl) Flat.L2.nil))) (Flat.TreeLast_ok kk hG hG1 ds0 ds1 c0 c1 x2 l0 l1 u0 u1 b2.1 b2.2)
theorem treeLast_said : Rows.TreeLastSaid :=
  OpenClaim.holds_of_wide 7 Tryd.f7 rfl rfl rfl rfl rfl rfl rfl ⟨rfl, rfl, rfl, rfl, rfl⟩ rfl rfl rfl rfl rfl (by kernel_rfl) Tryd.func7 (by kernel_rfl)
    (of_decide_eq_true (by kernel_rfl)) (by unfold Func.isWrapper; first | (rw [if_pos (by decide +kernel)]; kernel_rfl) | (rw [if_neg (by decide +kernel)]; exact ⟨rfl, rfl⟩))
    (fun os started H enc _ => treeLast_lifted os started H enc)
theorem treeLast_holds : Rows.TreeLastCardSaid :=
  Claim7.holds_tied_plain_at .later [] [.data, .data, .data] true (true, "b75c6d91873f64bda9656c4e5567a44aaef6adadaae2519fb6a4187272d27960") false treeLast_said (fun _ h => by cases h) (by kernel_rfl) (fun _ h => by cases h) treeLast_row_tie rfl ⟨rfl, rfl⟩ (by kernel_rfl) rfl
    (fun f fn hf hfn => by
      obtain rfl : f = 7 := Option.some.inj ((show Tryd.prog.funcNamed "estreat/estreatlaw03.TreeLast" = some 7 by kernel_rfl).symm.trans hf) |>.symm
      obtain rfl : fn = Tryd.f7 := (Option.some.inj (Tryd.func7.symm.trans hfn)).symm
      exact ⟨by kernel_rfl, fun j t ht => by
        rw [Tryd.params7] at ht
        have hm : t ∈ [22, 22, 3] := by simpa using Array.mem_of_getElem? ht
        have hall : ([22, 22, 3].all fun u => !Tryd.prog.wantsStandIn u) = true := by kernel_rfl
        exact (show Tryd.prog.wantsStandIn t = false by simpa using List.all_eq_true.1 hall t hm)⟩)
    (by kernel_rfl)
#print axioms treeLast_holds
end Go.Proofs.YtabhbnhkobkakaaDoor
end
