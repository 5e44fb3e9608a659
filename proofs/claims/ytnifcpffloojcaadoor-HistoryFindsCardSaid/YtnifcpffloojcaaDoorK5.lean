/- Walks and plain laws: what each theorem says, within the bounds that it names. -/
import Derived.Test.YtnifcpffloojcaaDoorK4
set_option linter.unusedVariables false
set_option linter.unusedSimpArgs false
set_option maxRecDepth 20000
namespace Go.Flat
open Go.Proofs
variable {G : Glob}
theorem rep_ds : ∀ n, rep n (rowE w8 32 dz) = dsC (List.replicate n dz)
  | 0 => rfl
  | n + 1 => by rw [List.replicate_succ, dsC_cons, ← rep_ds n]; rfl
theorem rep_tx : ∀ n, rep n [Value.string ⟨#[]⟩] = (List.replicate n (⟨#[]⟩ : ByteArray)).map Value.string
  | 0 => rfl
  | n + 1 => by rw [List.replicate_succ, List.map_cons, ← rep_tx n]; rfl
theorem stpC_drop (p q : List Stp) : (stpC (p ++ q)).drop (p.length * 33) = stpC q := by
  rw [stpC_app, List.drop_append_of_le_length (by rw [stpC_len]; exact Nat.le_refl _), List.drop_of_length_le (by rw [stpC_len]; exact Nat.le_refl _), List.nil_append]
theorem stpC_cons (a : Stp) (q : List Stp) : stpC (a :: q) = rowE w8 32 a.1 ++ ([Value.bool a.2] ++ stpC q) := by simp [stpC]
theorem stpC_at (l : List Stp) (i : Nat) (p : Stp) (h : l[i]? = some p) : ((stpC l).drop (i * 33)).take 32 = rowE w8 32 p.1 ∧ (stpC l)[i * 33 + 32]? = some (Value.bool p.2) := by
  have hi : i < l.length := (List.getElem?_eq_some_iff.1 h).1
  have e : l = l.take i ++ p :: l.drop (i + 1) := by
    have := List.getElem?_eq_some_iff.1 h
    obtain ⟨h1, h2⟩ := this
    rw [← h2, ← List.drop_eq_getElem_cons h1, List.take_append_drop]
  have hl : (l.take i).length = i := by simp; omega
  have hd := stpC_drop (l.take i) (p :: l.drop (i + 1))
  rw [← e, hl] at hd
  refine ⟨?_, ?_⟩
  · rw [hd, stpC_cons, List.take_append_of_le_length (by rw [rowE_len]; exact Nat.le_refl _), List.take_of_length_le (by rw [rowE_len]; exact Nat.le_refl _)]
  · have : (stpC l)[i * 33 + 32]? = ((stpC l).drop (i * 33))[32]? := by rw [List.getElem?_drop]
    rw [this, hd, stpC_cons, List.getElem?_append_right (by rw [rowE_len]; exact Nat.le_refl _), rowE_len]
    rfl
structure KnS where
  j : Nat
  A : List D
  TS : List ByteArray
theorem drop_set {α : Type} {A : List α} {j : Nat} {x : α} {t : List α} (h : A.drop (j + 1) = t) (hj : j < A.length) : (A.set j x).drop j = x :: t := by
  rw [List.drop_eq_getElem_cons (by simpa using hj)]
  congr 1
  · simp
  · rw [List.drop_set, if_pos (by omega)]; exact h
set_option maxRecDepth 20000 in
set_option maxHeartbeats 8000000 in
theorem knots_ok (kk : Nat → BitVec 32) (hG : G 3 = some (rowE w32 64 kk)) (leaf : D) (l : List Stp) (n c : Nat) (hn : l.length = n) (hb : n ≤ 1000) (hc : n ≤ c) :
    CallL Tryd.prog G 47 [dgV leaf, slv 0 0 n c] [stpR l] (.tuple #[slv 1 0 (n + 1) (n + 1), slv 2 0 n n]) [stpR l, dsB (knA kk leaf l), txB (knT kk leaf l)] := by
  refine walk (fn := Tryd.f47) (nt := 64) rfl rfl rfl rfl ?_
  refine c_hole 5 (H' := [stpR l, hole, hole, hole, hole, hole]) rfl ?_
  have hr1 : ((n : Int) + 1) = ((n + 1 : Nat) : Int) := by omega
  repeat (first
    | ((with_reducible apply r_box (nid := 3)); rfl; rfl; exact (rfl : _ = Value.agg _); rfl; exact (show _ = [stpR l, hole, hole, dgB leaf, hole, hole] by kernel_rfl))
    | ((with_reducible apply r_make (nid := 1)); rfl; rfl; exact (rfl : _ = Value.int _ _); exact (rfl : _ = Value.int _ _); exact makeD_ok (n := n + 1) (c := n + 1) (rfl : _ = some (32, _, 32)) hr1 hr1 (Nat.le_refl _) (by omega) (by omega) rfl; exact (congrArg (fun q => [stpR l, ({ cells := q, sz := 32, wr := true, fix := false, mv := true, pur := true } : Blk), hole, dgB leaf, hole, hole]) (rep_ds (n + 1))))
    | ((with_reducible apply r_make (nid := 2)); rfl; rfl; exact (rfl : _ = Value.int _ _); exact (rfl : _ = Value.int _ _); exact makeD_ok (n := n) (c := n) (rfl : _ = some (1, _, 16)) rfl rfl (Nat.le_refl _) (by omega) (by omega) rfl; exact (congrArg (fun q => [stpR l, dsB (List.replicate (n + 1) dz), ({ cells := q, sz := 1, wr := true, fix := false, mv := true, pur := true } : Blk), dgB leaf, hole, hole]) (rep_tx n)))
    | ((with_reducible apply r_load); rfl; rfl; exact (rfl : _ = Value.pointer (some ⟨3, _, _⟩)); exact (show _ = some (dgV leaf) by kernel_rfl))
    | ((with_reducible apply r_store); rfl; exact (rfl : _ = Value.pointer (some ⟨1, _, _⟩)); exact (rfl : _ = Value.agg _); exact storeD_dg (i := n) (Q := List.replicate (n + 1) dz) rfl rfl rfl rfl (by simp) rfl; exact (show _ = [stpR l, dsB ((List.replicate (n + 1) dz).set n leaf), txB (List.replicate n ⟨#[]⟩), dgB leaf, hole, hole] by kernel_rfl))
    | ((with_reducible apply r_idxS (j := n * 32)); rfl; rfl; exact (rfl : _ = Value.slice (some ⟨_, _, _⟩) _ _); (exact (rfl : _ = Value.int _ _)); (exact (rfl : _ = some (_, 32))); omega; omega; omega)
    | ((with_reducible apply r_move); rfl; rfl; (exact (rfl : _ = Value.slice _ _ _)))
    | ((with_reducible apply r_assign); rfl; rfl; (first
    | exact (rfl : _ = Value.int _ _)
    | exact (rfl : _ = Value.slice _ _ _)))
    | ((with_reducible apply r_bin); rfl; rfl; (exact (rfl : _ = Value.int _ _)); (exact (rfl : _ = Value.int _ _)); (first
    | with_reducible exact bin_add rfl (by omega) (by omega)
    | with_reducible exact bin_sub rfl (by omega) (by omega)))
    | ((with_reducible apply r_len); rfl; rfl; (exact (rfl : _ = Value.slice _ _ _)); (exact (rfl : _ = some (Value.int _ _))))
    | with_reducible refine r_doneN ?_
    | with_reducible refine c_reg ?_
    | with_reducible refine c_seq ?_
    | with_reducible refine c_block ?_
    | with_reducible refine x_then ?_
    | (with_reducible refine r_doneD (by kernel_rfl) ?_)
    | (with_reducible refine c_draw (by kernel_rfl) ?_))
  refine c_loopN (fun x : KnS => [dead, slv 0 0 n c, dead, dead, dead, dead, slv 1 0 (n + 1) (n + 1), slv 2 0 n n, .int .i64 ((x.j : Int) - 1)]) (fun x => [stpR l, dsB x.A, txB x.TS]) (fun x => x.j ≤ n ∧ x.A.length = n + 1 ∧ x.TS.length = n ∧ x.A.drop x.j = knA kk leaf (l.drop x.j) ∧ x.TS.drop x.j = knT kk leaf (l.drop x.j)) (fun x => x.j) ⟨n, (List.replicate (n + 1) dz).set n leaf, List.replicate n ⟨#[]⟩⟩ ⟨Nat.le_refl _, by simp, by simp, ?_, ?_⟩ ?_ ?_
  · rw [List.drop_of_length_le (l := l) (by show l.length ≤ n; omega)]
    exact drop_set (by rw [List.drop_of_length_le (by simp)]) (by simp)
  · rw [List.drop_of_length_le (l := l) (by show l.length ≤ n; omega), List.drop_of_length_le (by simp)]; rfl
  · refine weak_to (n := 3) rfl ?_ rfl ?_
    repeat (first | exact trivial | refine ⟨.inl rfl, ?_⟩ | refine ⟨.inr ⟨rfl, rfl⟩, ?_⟩)
    · simp [stpR, dsB, txB]
  · rintro ⟨j, A, TS⟩ ⟨g1, g2, g3, g4, g5⟩
    dsimp only at g1 g2 g3 g4 g5 ⊢
    rcases Nat.eq_zero_or_pos j with h0 | h0
    · subst h0
      have e1 : A = knA kk leaf l := by simpa using g4
      have e2 : TS = knT kk leaf l := by simpa using g5
      rw [← e1, ← e2]
      repeat (first
        | ((with_reducible apply r_move); rfl; rfl; (first
        | exact (rfl : _ = Value.int _ _)
        | exact (rfl : _ = Value.slice _ _ _)))
        | ((with_reducible apply r_assign); rfl; rfl; (exact (rfl : _ = Value.slice _ _ _)))
        | ((with_reducible apply r_bin); rfl; rfl; (exact (rfl : _ = Value.int _ _)); (exact (rfl : _ = Value.int _ _)); (with_reducible exact geq_f (by omega)))
        | with_reducible refine r_doneN ?_
        | with_reducible refine c_reg ?_
        | with_reducible refine c_seq ?_
        | with_reducible refine c_exit ?_
        | with_reducible refine c_ret ?_
        | with_reducible refine x_then ?_
        | with_reducible refine x_thenE ?_
        | with_reducible refine x_leaveE ?_
        | ((with_reducible apply c_false); rfl)
        | ((with_reducible apply x_block); rfl))
      refine x_end ?_
      refine end_same (v := .tuple #[slv 1 0 (n + 1) (n + 1), slv 2 0 n n]) rfl rfl rfl ?_ ?_
      · simp [keptB, stpR, dsB, txB]
      · exact ⟨⟨rfl, rfl, rfl, by omega, by omega⟩, ⟨rfl, rfl, rfl, by omega, by omega⟩, trivial⟩
    · obtain ⟨i, rfl⟩ : ∃ i, j = i + 1 := ⟨j - 1, by omega⟩
      obtain ⟨⟨y, r⟩, hp⟩ : ∃ p, l[i]? = some p := ⟨l[i]'(by omega), by simp⟩
      obtain ⟨p1, p2⟩ := stpC_at l i (y, r) hp
      dsimp only at p1 p2
      have hld : l.drop i = (y, r) :: l.drop (i + 1) := by
        obtain ⟨h1, h2⟩ := List.getElem?_eq_some_iff.1 hp
        rw [← h2, ← List.drop_eq_getElem_cons h1]
      have hA1 := dsC_atI A (i + 1) (by omega)
      have hgx : A.getD (i + 1) d0 = (knA kk leaf (l.drop (i + 1))).getD 0 d0 := by
        rw [← g4, List.getD_eq_getElem?_getD, List.getD_eq_getElem?_getD, List.getElem?_drop, Nat.add_zero]
      rw [hgx] at hA1
      have hxx : (((i + 1 : Nat) : Int) - 1) = (i : Nat) := by omega
      have hxx1 : (((i + 1 : Nat) : Int) - 1) + 1 = ((i + 1 : Nat) : Int) := by omega
      rw [hxx] 
      have kA : knA kk leaf (l.drop i) = (if r then knotF kk y ((knA kk leaf (l.drop (i + 1))).getD 0 d0) else knotF kk ((knA kk leaf (l.drop (i + 1))).getD 0 d0) y) :: knA kk leaf (l.drop (i + 1)) := by rw [hld]; rfl
      have kT : knT kk leaf (l.drop i) = (if r then tx y ((knA kk leaf (l.drop (i + 1))).getD 0 d0) else tx ((knA kk leaf (l.drop (i + 1))).getD 0 d0) y) :: knT kk leaf (l.drop (i + 1)) := by rw [hld]; rfl
      generalize (knA kk leaf (l.drop (i + 1))).getD 0 d0 = x at *
      have h32 : ∀ d : Nat → BitVec 8, (strOf (dgL d)).size = 32 := fun d => by rw [strOf_size, dgL_len]
      have h1 : one1.size = 1 := rfl
      have hcA : (dsB A).cells.length = (n + 1) * 32 := by show (dsC A).length = _; rw [dsC_len, g2]
      have hcS : (stpR l).cells.length = n * 33 := by show (stpC l).length = _; rw [stpC_len, hn]
      refine c_hole 2 (H' := [stpR l, dsB A, txB TS, hole, hole]) rfl ?_
      cases r with
      | false =>
        have hK := Knot_ok (G := G) kk hG x y
        have c1 : one1.size + (strOf (dgL x)).size ≤ 140737488351232 := by rw [h32, h1]; omega
        have c2 : (one1 ++ strOf (dgL x)).size + (strOf (dgL y)).size ≤ 140737488351232 := by rw [ByteArray.size_append, h32, h32, h1]; omega
        have hstr : strOf (dgL x) = strOf (dgL x) := rfl
        repeat (first
          | ((with_reducible apply r_idxS (j := i * 33)); rfl; rfl; exact (rfl : _ = Value.slice (some ⟨_, _, _⟩) _ _); exact (rfl : _ = Value.int _ _); exact (rfl : _ = some (_, 33)); omega; omega; omega)
          | ((with_reducible apply r_load); rfl; rfl; exact (rfl : _ = Value.pointer (some ⟨1, _, _⟩)); exact (show _ = some (dgV x) from loadA_agg (n := 32) rfl rfl (by omega) hA1))
          | ((with_reducible apply r_load); rfl; rfl; exact (rfl : _ = Value.pointer (some ⟨0, _, _⟩)); first | exact (show _ = some (dgV y) from loadA_agg (n := 32) rfl rfl (by omega) p1) | exact (show _ = some (Value.bool _) from loadA_at rfl rfl p2 rfl))
          | ((with_reducible apply r_alloc (nid := 3)); rfl; rfl; rfl; exact (show _ = [stpR l, dsB A, txB TS, dgB dz, hole] by kernel_rfl))
          | ((with_reducible apply r_alloc (nid := 4)); rfl; rfl; rfl; exact (rfl : _ = _ :: _))
          | ((with_reducible apply r_str); rfl; rfl; exact (rfl : _ = Value.slice (some ⟨3, _, _⟩) _ _); exact strD_row (l := dgL x) rfl rfl rfl rfl (by show 0 + 32 ≤ 32; decide) rfl)
          | ((with_reducible apply r_str); rfl; rfl; exact (rfl : _ = Value.slice (some ⟨4, _, _⟩) _ _); exact strD_row (l := dgL y) rfl rfl rfl rfl (by show 0 + 32 ≤ 32; decide) rfl)
          | ((with_reducible apply r_bin); rfl; rfl; exact (rfl : _ = Value.string _); exact (rfl : _ = Value.string _); first | exact bin_cat c1 | exact bin_cat c2)
          | ((with_reducible apply r_store); rfl; exact (rfl : _ = Value.pointer (some ⟨1, _, _⟩)); exact (rfl : _ = Value.agg _); exact storeD_dg (i := i) (Q := A) rfl rfl rfl rfl (by omega) rfl; exact (rfl : _ = _ :: _))
          | ((with_reducible apply r_store); rfl; exact (rfl : _ = Value.pointer (some ⟨2, _, _⟩)); exact (rfl : _ = Value.string _); exact storeD_set (o := i) rfl rfl rfl rfl (by show i < (TS.map Value.string).length; simp; omega) rfl rfl; exact (rfl : _ = _ :: _))
          | ((with_reducible apply r_idxS (j := (i + 1) * 32)); rfl; rfl; exact (rfl : _ = Value.slice (some ⟨_, _, _⟩) _ _); (exact (rfl : _ = Value.int _ _)); (first
          | exact (rfl : _ = some (_, 1))
          | exact (rfl : _ = some (_, 32))); omega; omega; omega)
          | ((with_reducible apply r_idxS (j := i * 32)); rfl; rfl; exact (rfl : _ = Value.slice (some ⟨_, _, _⟩) _ _); (exact (rfl : _ = Value.int _ _)); (first
          | exact (rfl : _ = some (_, 1))
          | exact (rfl : _ = some (_, 32))); omega; omega; omega)
          | ((with_reducible apply r_idxS (j := i)); rfl; rfl; exact (rfl : _ = Value.slice (some ⟨_, _, _⟩) _ _); (exact (rfl : _ = Value.int _ _)); (exact (rfl : _ = some (_, 1))); omega; omega; omega)
          | ((with_reducible apply r_move); rfl; rfl; (first
          | exact (rfl : _ = Value.int _ _)
          | exact (rfl : _ = Value.slice _ _ _)))
          | ((with_reducible apply r_assign); rfl; rfl; (exact (rfl : _ = Value.int _ _)))
          | ((with_reducible apply r_bin); rfl; rfl; (exact (rfl : _ = Value.int _ _)); (exact (rfl : _ = Value.int _ _)); (first
          | with_reducible exact geq_t (by omega)
          | with_reducible exact bin_add rfl (by omega) (by omega)
          | with_reducible exact bin_sub rfl (by omega) (by omega)))
          | ((with_reducible apply r_slice); rfl; rfl; (exact (rfl : _ = Value.pointer (some _))); rfl; rfl; (exact (rfl : _ = some (Value.slice (some ⟨_, _, _⟩) _ _))))
          | ((with_reducible apply r_fieldAddr); rfl; rfl; exact (rfl : _ = Value.pointer (some ⟨_, _, _⟩)); (first
          | exact (rfl : _ = some 0)
          | rfl); (exact Nat.add_zero _))
          | ((with_reducible apply r_load); rfl; rfl; exact (rfl : _ = Value.pointer (some ⟨_, _, _⟩)); (exact (rfl : _ = some (Value.agg _))))
          | ((with_reducible apply r_store); rfl; exact (rfl : _ = Value.pointer (some ⟨_, _, _⟩)); (exact (rfl : _ = Value.agg _)); (rfl); exact (rfl : _ = _ :: _))
          | ((with_reducible apply r_callP (hK)); rfl; rfl; rfl; rfl; rfl; (exact (rfl : _ = Value.agg _)))
          | with_reducible refine r_doneN ?_
          | with_reducible refine c_reg ?_
          | with_reducible refine c_seq ?_
          | with_reducible refine c_block ?_
          | with_reducible refine c_skip ?_
          | with_reducible refine x_then ?_
          | with_reducible refine x_blockN ?_
          | (with_reducible refine r_doneD (by kernel_rfl) ?_)
          | (with_reducible refine c_draw (by kernel_rfl) ?_)
          | ((with_reducible apply c_true); rfl)
          | ((with_reducible apply c_false); rfl))
        refine x_round ⟨⟨i, A.set i (knotF kk x y), TS.set i (tx x y)⟩, ⟨by show i ≤ n; omega, by simpa using g2, by simpa using g3, ?_, ?_⟩, by show i < i + 1; omega, ?_⟩
        · rw [kA]; exact drop_set g4 (by show i < A.length; omega)
        · rw [kT]; exact drop_set g5 (by show i < TS.length; omega)
        · have e2 : (TS.map Value.string).set i (Value.string (tx x y)) = (TS.set i (tx x y)).map Value.string := by rw [List.map_set]
          refine weak_to (n := 3) rfl ?_ (congrArg (fun q => [stpR l, dsB (A.set i (knotF kk x y)), ({ cells := q, sz := 1, wr := true, fix := false, mv := true, pur := true } : Blk)]) e2) ?_
          repeat (first | exact trivial | refine ⟨.inl rfl, ?_⟩ | refine ⟨.inr ⟨rfl, rfl⟩, ?_⟩)
          · simp [stpR, dsB, txB]
      | true =>
        have hK := Knot_ok (G := G) kk hG y x
        have c1 : one1.size + (strOf (dgL y)).size ≤ 140737488351232 := by rw [h32, h1]; omega
        have c2 : (one1 ++ strOf (dgL y)).size + (strOf (dgL x)).size ≤ 140737488351232 := by rw [ByteArray.size_append, h32, h32, h1]; omega
        have hstr : strOf (dgL y) = strOf (dgL y) := rfl
        repeat (first
          | ((with_reducible apply r_idxS (j := i * 33)); rfl; rfl; exact (rfl : _ = Value.slice (some ⟨_, _, _⟩) _ _); exact (rfl : _ = Value.int _ _); exact (rfl : _ = some (_, 33)); omega; omega; omega)
          | ((with_reducible apply r_load); rfl; rfl; exact (rfl : _ = Value.pointer (some ⟨1, _, _⟩)); exact (show _ = some (dgV x) from loadA_agg (n := 32) rfl rfl (by omega) hA1))
          | ((with_reducible apply r_load); rfl; rfl; exact (rfl : _ = Value.pointer (some ⟨0, _, _⟩)); first | exact (show _ = some (dgV y) from loadA_agg (n := 32) rfl rfl (by omega) p1) | exact (show _ = some (Value.bool _) from loadA_at rfl rfl p2 rfl))
          | ((with_reducible apply r_alloc (nid := 3)); rfl; rfl; rfl; exact (show _ = [stpR l, dsB A, txB TS, dgB dz, hole] by kernel_rfl))
          | ((with_reducible apply r_alloc (nid := 4)); rfl; rfl; rfl; exact (rfl : _ = _ :: _))
          | ((with_reducible apply r_str); rfl; rfl; exact (rfl : _ = Value.slice (some ⟨3, _, _⟩) _ _); exact strD_row (l := dgL y) rfl rfl rfl rfl (by show 0 + 32 ≤ 32; decide) rfl)
          | ((with_reducible apply r_str); rfl; rfl; exact (rfl : _ = Value.slice (some ⟨4, _, _⟩) _ _); exact strD_row (l := dgL x) rfl rfl rfl rfl (by show 0 + 32 ≤ 32; decide) rfl)
          | ((with_reducible apply r_bin); rfl; rfl; exact (rfl : _ = Value.string _); exact (rfl : _ = Value.string _); first | exact bin_cat c1 | exact bin_cat c2)
          | ((with_reducible apply r_store); rfl; exact (rfl : _ = Value.pointer (some ⟨1, _, _⟩)); exact (rfl : _ = Value.agg _); exact storeD_dg (i := i) (Q := A) rfl rfl rfl rfl (by omega) rfl; exact (rfl : _ = _ :: _))
          | ((with_reducible apply r_store); rfl; exact (rfl : _ = Value.pointer (some ⟨2, _, _⟩)); exact (rfl : _ = Value.string _); exact storeD_set (o := i) rfl rfl rfl rfl (by show i < (TS.map Value.string).length; simp; omega) rfl rfl; exact (rfl : _ = _ :: _))
          | ((with_reducible apply r_idxS (j := (i + 1) * 32)); rfl; rfl; exact (rfl : _ = Value.slice (some ⟨_, _, _⟩) _ _); (exact (rfl : _ = Value.int _ _)); (first
          | exact (rfl : _ = some (_, 1))
          | exact (rfl : _ = some (_, 32))); omega; omega; omega)
          | ((with_reducible apply r_idxS (j := i * 32)); rfl; rfl; exact (rfl : _ = Value.slice (some ⟨_, _, _⟩) _ _); (exact (rfl : _ = Value.int _ _)); (first
          | exact (rfl : _ = some (_, 1))
          | exact (rfl : _ = some (_, 32))); omega; omega; omega)
          | ((with_reducible apply r_idxS (j := i)); rfl; rfl; exact (rfl : _ = Value.slice (some ⟨_, _, _⟩) _ _); (exact (rfl : _ = Value.int _ _)); (exact (rfl : _ = some (_, 1))); omega; omega; omega)
          | ((with_reducible apply r_move); rfl; rfl; (first
          | exact (rfl : _ = Value.int _ _)
          | exact (rfl : _ = Value.slice _ _ _)))
          | ((with_reducible apply r_assign); rfl; rfl; (exact (rfl : _ = Value.int _ _)))
          | ((with_reducible apply r_bin); rfl; rfl; (exact (rfl : _ = Value.int _ _)); (exact (rfl : _ = Value.int _ _)); (first
          | with_reducible exact geq_t (by omega)
          | with_reducible exact bin_add rfl (by omega) (by omega)
          | with_reducible exact bin_sub rfl (by omega) (by omega)))
          | ((with_reducible apply r_slice); rfl; rfl; (exact (rfl : _ = Value.pointer (some _))); rfl; rfl; (exact (rfl : _ = some (Value.slice (some ⟨_, _, _⟩) _ _))))
          | ((with_reducible apply r_fieldAddr); rfl; rfl; exact (rfl : _ = Value.pointer (some ⟨_, _, _⟩)); (first
          | exact (rfl : _ = some 0)
          | rfl); (exact Nat.add_zero _))
          | ((with_reducible apply r_load); rfl; rfl; exact (rfl : _ = Value.pointer (some ⟨_, _, _⟩)); (exact (rfl : _ = some (Value.agg _))))
          | ((with_reducible apply r_store); rfl; exact (rfl : _ = Value.pointer (some ⟨_, _, _⟩)); (exact (rfl : _ = Value.agg _)); (rfl); exact (rfl : _ = _ :: _))
          | ((with_reducible apply r_callP (hK)); rfl; rfl; rfl; rfl; rfl; (exact (rfl : _ = Value.agg _)))
          | with_reducible refine r_doneN ?_
          | with_reducible refine c_reg ?_
          | with_reducible refine c_seq ?_
          | with_reducible refine c_block ?_
          | with_reducible refine c_skip ?_
          | with_reducible refine x_then ?_
          | with_reducible refine x_blockN ?_
          | (with_reducible refine r_doneD (by kernel_rfl) ?_)
          | (with_reducible refine c_draw (by kernel_rfl) ?_)
          | ((with_reducible apply c_true); rfl))
        refine x_round ⟨⟨i, A.set i (knotF kk y x), TS.set i (tx y x)⟩, ⟨by show i ≤ n; omega, by simpa using g2, by simpa using g3, ?_, ?_⟩, by show i < i + 1; omega, ?_⟩
        · rw [kA]; exact drop_set g4 (by show i < A.length; omega)
        · rw [kT]; exact drop_set g5 (by show i < TS.length; omega)
        · have e2 : (TS.map Value.string).set i (Value.string (tx y x)) = (TS.set i (tx y x)).map Value.string := by rw [List.map_set]
          refine weak_to (n := 3) rfl ?_ (congrArg (fun q => [stpR l, dsB (A.set i (knotF kk y x)), ({ cells := q, sz := 1, wr := true, fix := false, mv := true, pur := true } : Blk)]) e2) ?_
          repeat (first | exact trivial | refine ⟨.inl rfl, ?_⟩ | refine ⟨.inr ⟨rfl, rfl⟩, ?_⟩)
          · simp [stpR, dsB, txB]
end Go.Flat
