/- Walks of package check: what each function computes, for every input within the bounds that each theorem names. -/
import Derived.Test.YtajjalickpkkkaaDoorK10
set_option linter.unusedVariables false
set_option linter.unusedSimpArgs false
namespace Go.Flat
open Go.Proofs
variable {G : Glob}
def clashT : List ByteArray → List ByteArray → Option (ByteArray × ByteArray)
  | a :: A, b :: B => if sameT a b then clashT A B else some (a, b)
  | _, _ => none
def clashE (kk : Nat → BitVec 32) (root : D) (size index : Int) (a : D) (p : List D) (b : D) (q : List D) : Option (ByteArray × ByteArray) :=
  if sameB 32 a b = true ∨ inclE kk root a size index p ≠ 0 ∨ inclE kk root b size index q ≠ 0 then none else
    match wayF size.toNat index.toNat p, wayF size.toNat index.toNat q with
    | some la, some lb => clashT (knT kk a la) (knT kk b lb)
    | _, _ => none
def clashV : Option (ByteArray × ByteArray) → Value
  | none => .tuple #[.string ⟨#[]⟩, .string ⟨#[]⟩, .bool false]
  | some p => .tuple #[.string p.1, .string p.2, .bool true]
theorem wayF_same : ∀ (t size index : Nat) (p q : List D) (la lb : List Stp), size ≤ 2 ^ t → wayF size index p = some la → wayF size index q = some lb → la.length = lb.length
  | 0, size, index, p, q, la, lb, h, hp, hq => by
    rw [wayF_one index _ (by simpa using h)] at hp hq
    split at hp <;> first | (cases hp; done) | skip
    split at hq <;> first | (cases hq; done) | skip
    injection hp with hp; injection hq with hq; subst hp; subst hq; rfl
  | t + 1, size, index, p, q, la, lb, h, hp, hq => by
    by_cases h2 : 2 ≤ size
    · have e := splitN_eq h2
      have h1 := Nat.log2_self_le (n := size - 1) (by omega)
      have h3 := Nat.lt_log2_self (n := size - 1)
      rw [Nat.pow_succ, ← e] at h3
      rw [← e] at h1
      have hk : splitN size ≤ 2 ^ t := by
        rw [e]
        refine Nat.pow_le_pow_right (by decide) ?_
        have : size - 1 < 2 ^ (t + 1) := by omega
        have := (Nat.log2_lt (n := size - 1) (by omega)).2 this
        omega
      rcases Nat.eq_zero_or_pos p.length with h0 | h0
      · rw [wayF_nil index h2 h0] at hp; cases hp
      rcases Nat.eq_zero_or_pos q.length with h4 | h4
      · rw [wayF_nil index h2 h4] at hq; cases hq
      by_cases hi : index < splitN size
      · rw [wayF_lo h2 h0 hi] at hp
        rw [wayF_lo h2 h4 hi] at hq
        obtain ⟨la', h5, rfl⟩ := Option.map_eq_some_iff.1 hp
        obtain ⟨lb', h6, rfl⟩ := Option.map_eq_some_iff.1 hq
        have := wayF_same t _ _ _ _ _ _ hk h5 h6
        simp [this]
      · rw [wayF_hi h2 h0 (by omega)] at hp
        rw [wayF_hi h2 h4 (by omega)] at hq
        obtain ⟨la', h5, rfl⟩ := Option.map_eq_some_iff.1 hp
        obtain ⟨lb', h6, rfl⟩ := Option.map_eq_some_iff.1 hq
        have := wayF_same t _ _ _ _ _ _ (by omega) h5 h6
        simp [this]
    · rw [wayF_one index _ (by omega)] at hp hq
      split at hp <;> first | (cases hp; done) | skip
      split at hq <;> first | (cases hq; done) | skip
      injection hp with hp; injection hq with hq; subst hp; subst hq; rfl
/-- What 'OK' of 'Included' says. -/
theorem inclE_zero {kk : Nat → BitVec 32} {root leaf : D} {size index : Int} {ds : List D} (h : inclE kk root leaf size index ds = 0) :
    ∃ (sz ix : Nat) (l : List Stp), size = sz ∧ index = ix ∧ 1 ≤ sz ∧ sz ≤ 100000 ∧ ix < sz ∧ wayF sz ix ds = some l ∧ sameB 32 ((knA kk leaf l).getD 0 d0) root = true := by
  unfold inclE at h
  split at h
  · cases h
  · rename_i hb
    refine ⟨size.toNat, index.toNat, ?_⟩
    split at h
    · cases h
    · rename_i l hl
      split at h
      · rename_i hs
        exact ⟨l, by omega, by omega, by omega, by omega, by omega, hl, hs⟩
      · cases h
theorem drop_get {A : List ByteArray} {i : Nat} (h : i < A.length) : A.drop i = A.getD i ⟨#[]⟩ :: A.drop (i + 1) := by
  rw [List.drop_eq_getElem_cons h, List.getD_eq_getElem?_getD, List.getElem?_eq_getElem h]; rfl
theorem txB_at {A : List ByteArray} {i : Nat} (h : i < A.length) : (txB A).cells[i]? = some (.string (A.getD i ⟨#[]⟩)) := by
  show (A.map Value.string)[i]? = _
  rw [List.getElem?_map, List.getElem?_eq_getElem h, List.getD_eq_getElem?_getD, List.getElem?_eq_getElem h]; rfl
set_option maxRecDepth 20000 in
set_option maxHeartbeats 8000000 in
theorem Clash_ok (kk : Nat → BitVec 32) (hG : G 1 = some (rowE w32 64 kk)) (root : D) (size index : Int) (a : D) (p : List D) (b : D) (q : List D) (m n c c' : Nat) (hm : p.length = m) (hn : q.length = n) (hb : m ≤ 1000) (hb' : n ≤ 1000) (hc : m ≤ c) (hc' : n ≤ c')
    (s1 : -9223372036854775808 ≤ size) (s2 : size ≤ 9223372036854775807) (i1 : -9223372036854775808 ≤ index) (i2 : index ≤ 9223372036854775807) :
    CallL Tryd.prog G 17 [dgV root, .int .i64 size, .int .i64 index, dgV a, slv 0 0 m c, dgV b, slv 1 0 n c'] [dsR p, dsR q] (clashV (clashE kk root size index a p b q)) [dsR p, dsR q] := by
  have hI1 := Included_ok (G := G) kk hG root a size index p m c hm hb hc s1 s2 i1 i2
  have hI2 := Included_ok (G := G) kk hG root b size index q n c' hn hb' hc' s1 s2 i1 i2
  have hend : (([dsR p, dsR q] : List Blk).all (keptB ([dsR p, dsR q] : List Blk).length)) = true := by simp [keptB, dsR]
  refine walk (fn := Tryd.f17) (nt := 81) rfl rfl rfl rfl ?_
  refine c_hole 9 (H' := [dsR p, dsR q, hole, hole, hole, hole, hole, hole, hole, hole, hole]) rfl ?_
  cases hs : sameB 32 a b with
  | true =>
    rw [show clashE kk root size index a p b q = none from by unfold clashE; rw [if_pos (.inl hs)]]
    repeat (first
      | ((with_reducible apply r_load); rfl; rfl; exact (rfl : _ = Value.pointer (some ⟨3, _, _⟩)); exact (show _ = some (dgV a) by kernel_rfl))
      | ((with_reducible apply r_load); rfl; rfl; exact (rfl : _ = Value.pointer (some ⟨4, _, _⟩)); exact (show _ = some (dgV b) by kernel_rfl))
      | ((with_reducible apply r_bin); rfl; rfl; exact (rfl : _ = Value.agg _); exact (rfl : _ = Value.agg _); refine Eq.trans (eql_dg (a := a) (b := b) (by kernel_rfl) rfl rfl rfl) ?_; rw [hs])
      | ((with_reducible apply r_move); rfl; rfl; (exact (rfl : _ = Value.bool _)))
      | ((with_reducible apply r_assign); rfl; rfl; (first
      | exact (rfl : _ = Value.bool _)
      | exact (rfl : _ = Value.string _)))
      | ((with_reducible apply r_pick); rfl; rfl; (exact (rfl : _ = some (Value.bool _))))
      | ((with_reducible apply r_box (nid := 2)); rfl; rfl; (exact (rfl : _ = Value.agg _)); rfl; exact (rfl : _ = _ :: _))
      | ((with_reducible apply r_box (nid := 3)); rfl; rfl; (exact (rfl : _ = Value.agg _)); rfl; exact (rfl : _ = _ :: _))
      | ((with_reducible apply r_box (nid := 4)); rfl; rfl; (exact (rfl : _ = Value.agg _)); rfl; exact (rfl : _ = _ :: _))
      | ((with_reducible apply r_skip); rfl; rfl)
      | with_reducible refine r_doneN ?_
      | with_reducible refine c_reg ?_
      | with_reducible refine c_seq ?_
      | with_reducible refine c_ret ?_
      | with_reducible refine x_then ?_
      | with_reducible refine x_thenR ?_
      | ((with_reducible apply c_true); rfl))
    refine x_end ?_
    exact end_same (v := clashV none) rfl rfl rfl hend ⟨rfl, rfl, rfl, trivial⟩
  | false =>
    by_cases hz1 : inclE kk root a size index p = 0
    · by_cases hz2 : inclE kk root b size index q = 0
      · have hE : clashE kk root size index a p b q = (match wayF size.toNat index.toNat p, wayF size.toNat index.toNat q with
          | some la, some lb => clashT (knT kk a la) (knT kk b lb)
          | _, _ => none) := by
          unfold clashE; rw [if_neg (by rw [hs, hz1, hz2]; simp)]
        obtain ⟨sz, ix, la, rfl, rfl, g1, g2, g3, hwa, hra⟩ := inclE_zero hz1
        obtain ⟨sz', ix', lb, g4, g5, g6, g7, g8, hwb, hrb⟩ := inclE_zero hz2
        obtain rfl : sz = sz' := by omega
        obtain rfl : ix = ix' := by omega
        rw [hz1] at hI1
        rw [hz2] at hI2
        rw [show ((sz : Int)).toNat = sz from rfl, show ((ix : Int)).toNat = ix from rfl, hwa, hwb] at hE
        dsimp only at hE
        have hW1 := way_ok (G := G) sz ix p m c la hm hb hc (by omega) (by omega) hwa
        have hW2 := way_ok (G := G) sz ix q n c' lb hn hb' hc' (by omega) (by omega) hwb
        have hlen := wayF_same 17 sz ix p q la lb (by omega) hwa hwb
        have hll := wayF_len 17 sz ix p la (by omega) hwa
        have hK1 := knots_ok (G := G) kk hG a la la.length la.length rfl (by omega) (Nat.le_refl _)
        have hK2 := knots_ok (G := G) kk hG b lb lb.length lb.length rfl (by omega) (Nat.le_refl _)
        rw [← hlen] at hK2 hW2
        have hTA := knT_len kk a la
        have hTB := knT_len kk b lb
        rw [← hlen] at hTB
        generalize hkl : la.length = k at *
        have hk17 : k ≤ 17 := by omega
        have hcA : (txB (knT kk a la)).cells.length = k := by show (List.map _ _).length = k; rw [List.length_map, hTA]
        have hcB : (txB (knT kk b lb)).cells.length = k := by show (List.map _ _).length = k; rw [List.length_map, hTB]
        generalize knA kk a la = KA at *
        generalize knT kk a la = TA at *
        generalize knA kk b lb = KB at *
        generalize knT kk b lb = TB at *
        rw [hE]
        repeat (first
          | ((with_reducible apply r_load); rfl; rfl; exact (rfl : _ = Value.pointer (some ⟨2, _, _⟩)); exact (show _ = some (dgV root) by kernel_rfl))
          | ((with_reducible apply r_load); rfl; rfl; exact (rfl : _ = Value.pointer (some ⟨3, _, _⟩)); exact (show _ = some (dgV a) by kernel_rfl))
          | ((with_reducible apply r_load); rfl; rfl; exact (rfl : _ = Value.pointer (some ⟨4, _, _⟩)); exact (show _ = some (dgV b) by kernel_rfl))
          | ((with_reducible apply r_bin); rfl; rfl; exact (rfl : _ = Value.agg _); exact (rfl : _ = Value.agg _); refine Eq.trans (eql_dg (a := a) (b := b) (by kernel_rfl) rfl rfl rfl) ?_; rw [hs])
          | ((with_reducible apply r_callN (e := [some (0, 0)]) (nid := 0) hI1); rfl; rfl; rfl; rfl; rfl; rfl; rfl; refine ⟨⟨rfl, rfl, rfl, rfl, ⟨rfl, rfl, rfl, by omega, by omega⟩, trivial⟩, ⟨emb_ro rfl rfl (by show 0 + (dsC _).length ≤ (dsC _).length; omega) (dsC_whole _), trivial⟩, rfl, rfl, rfl⟩; exact (show _ = Value.int .i64 0 by kernel_rfl); exact (rfl : _ = _ :: _))
          | ((with_reducible apply r_callN (e := [some (1, 0)]) (nid := 0) hI2); rfl; rfl; rfl; rfl; rfl; rfl; rfl; refine ⟨⟨rfl, rfl, rfl, rfl, ⟨rfl, rfl, rfl, by omega, by omega⟩, trivial⟩, ⟨emb_ro rfl rfl (by show 0 + (dsC _).length ≤ (dsC _).length; omega) (dsC_whole _), trivial⟩, rfl, rfl, rfl⟩; exact (show _ = Value.int .i64 0 by kernel_rfl); exact (rfl : _ = _ :: _))
          | ((with_reducible apply r_callN (e := [some (0, 0)]) (nid := 5) hW1); rfl; rfl; rfl; rfl; rfl; rfl; rfl; refine ⟨⟨rfl, rfl, ⟨rfl, rfl, rfl, by omega, by omega⟩, trivial⟩, ⟨emb_ro rfl rfl (by show 0 + (dsC _).length ≤ (dsC _).length; omega) (dsC_whole _), trivial⟩, rfl, rfl, rfl⟩; exact (show _ = slv 5 0 k k by kernel_rfl); exact (show _ = [dsR p, dsR q, dgB root, dgB a, dgB b, stpB la, hole, hole, hole, hole, hole] by kernel_rfl))
          | ((with_reducible apply r_callN (e := [some (5, 0)]) (nid := 6) hK1); rfl; rfl; rfl; rfl; rfl; rfl; rfl; refine ⟨⟨rfl, ⟨rfl, rfl, rfl, by omega, by omega⟩, trivial⟩, ⟨emb_stp rfl, trivial⟩, rfl, rfl, rfl⟩; exact (show _ = Value.tuple #[slv 6 0 (k + 1) (k + 1), slv 7 0 k k] by kernel_rfl); exact (show _ = [dsR p, dsR q, dgB root, dgB a, dgB b, stpB la, dsB KA, txB TA, hole, hole, hole] by kernel_rfl))
          | ((with_reducible apply r_callN (e := [some (1, 0)]) (nid := 8) hW2); rfl; rfl; rfl; rfl; rfl; rfl; rfl; refine ⟨⟨rfl, rfl, ⟨rfl, rfl, rfl, by omega, by omega⟩, trivial⟩, ⟨emb_ro rfl rfl (by show 0 + (dsC _).length ≤ (dsC _).length; omega) (dsC_whole _), trivial⟩, rfl, rfl, rfl⟩; exact (show _ = slv 8 0 k k by kernel_rfl); exact (show _ = [dsR p, dsR q, dgB root, dgB a, dgB b, stpB la, dsB KA, txB TA, stpB lb, hole, hole] by kernel_rfl))
          | ((with_reducible apply r_callN (e := [some (8, 0)]) (nid := 9) hK2); rfl; rfl; rfl; rfl; rfl; rfl; rfl; refine ⟨⟨rfl, ⟨rfl, rfl, rfl, by omega, by omega⟩, trivial⟩, ⟨emb_stp rfl, trivial⟩, rfl, rfl, rfl⟩; exact (show _ = Value.tuple #[slv 9 0 (k + 1) (k + 1), slv 10 0 k k] by kernel_rfl); exact (show _ = [dsR p, dsR q, dgB root, dgB a, dgB b, stpB la, dsB KA, txB TA, stpB lb, dsB KB, txB TB] by kernel_rfl))
          | ((with_reducible apply r_move); rfl; rfl; (first
          | exact (rfl : _ = Value.int _ _)
          | exact (rfl : _ = Value.bool _)
          | exact (rfl : _ = Value.slice _ _ _)
          | exact (rfl : _ = Value.tuple _)))
          | ((with_reducible apply r_assign); rfl; rfl; (first
          | exact (rfl : _ = Value.bool _)
          | exact (rfl : _ = Value.slice _ _ _)
          | exact (rfl : _ = Value.string _)))
          | ((with_reducible apply r_bin); rfl; rfl; (exact (rfl : _ = Value.int _ _)); (exact (rfl : _ = Value.int _ _)); (with_reducible exact neq_f (by omega)))
          | ((with_reducible apply r_pick); rfl; rfl; (exact (rfl : _ = some (Value.bool _))))
          | ((with_reducible apply r_len); rfl; rfl; (exact (rfl : _ = Value.slice _ _ _)); (exact (rfl : _ = some (Value.int _ _))))
          | ((with_reducible apply r_extract); rfl; rfl; rfl; (exact (rfl : _ = some (Value.slice _ _ _))))
          | ((with_reducible apply r_box (nid := 2)); rfl; rfl; (exact (rfl : _ = Value.agg _)); rfl; exact (rfl : _ = _ :: _))
          | ((with_reducible apply r_box (nid := 3)); rfl; rfl; (exact (rfl : _ = Value.agg _)); rfl; exact (rfl : _ = _ :: _))
          | ((with_reducible apply r_box (nid := 4)); rfl; rfl; (exact (rfl : _ = Value.agg _)); rfl; exact (rfl : _ = _ :: _))
          | with_reducible refine r_doneN ?_
          | with_reducible refine c_reg ?_
          | with_reducible refine c_seq ?_
          | with_reducible refine c_block ?_
          | with_reducible refine c_skip ?_
          | with_reducible refine x_then ?_
          | (with_reducible refine r_doneD (by kernel_rfl) ?_)
          | (with_reducible refine c_draw (by kernel_rfl) ?_)
          | ((with_reducible apply c_false); rfl))
        refine c_loopN (fun i : Nat => [dead, dead, dead, dead, dead, dead, dead, dead, dead, dead, dead, dead, dead, dead, dead, dead, dead, dead, dead, dead, slv 10 0 k k, dead, dead, dead, dead, dead, dead, dead, dead, dead, dead, dead, dead, dead, dead, dead, dead, dead, dead, dead, dead, dead, dead, dead, dead, dead, dead, dead, dead, dead, dead, dead, dead, dead, dead, dead, dead, dead, dead, dead, dead, dead, slv 7 0 k k, .int .i64 (k : Nat), .int .i64 (i : Nat)]) (fun _ => [dsR p, dsR q, dgB root, dgB a, dgB b, stpB la, dsB KA, txB TA, stpB lb, dsB KB, txB TB]) (fun i => i ≤ k ∧ clashT (TA.drop i) (TB.drop i) = clashT TA TB) (fun i => k - i) 0 ⟨by omega, by simp⟩ ?_ ?_
        · refine weak_to (n := 11) rfl ?_ (by kernel_rfl) ?_
          · skip
            repeat (first | exact trivial | refine ⟨.inl rfl, ?_⟩ | refine ⟨.inr ⟨rfl, rfl⟩, ?_⟩)
          · simp [dsR, dgB, dsB, stpB, txB]
        · rintro i ⟨hi, hinv⟩
          by_cases hlt : i < k
          · have hA := drop_get (A := TA) (i := i) (by omega)
            have hB := drop_get (A := TB) (i := i) (by omega)
            have hAt := txB_at (A := TA) (i := i) (by omega)
            have hBt := txB_at (A := TB) (i := i) (by omega)
            rw [hA, hB] at hinv
            generalize TA.getD i ⟨#[]⟩ = s at *
            generalize TB.getD i ⟨#[]⟩ = t at *
            cases hq : sameT s t with
            | true =>
              have hnx : clashT (TA.drop (i + 1)) (TB.drop (i + 1)) = clashT TA TB := by rw [← hinv]; show _ = (if sameT s t then _ else _); rw [hq]; rfl
              repeat (first
                | ((with_reducible apply r_load); rfl; rfl; exact (rfl : _ = Value.pointer (some ⟨7, _, _⟩)); exact (show _ = some (Value.string s) from loadA_at rfl rfl (by simpa using hAt) rfl))
                | ((with_reducible apply r_load); rfl; rfl; exact (rfl : _ = Value.pointer (some ⟨10, _, _⟩)); exact (show _ = some (Value.string t) from loadA_at rfl rfl (by simpa using hBt) rfl))
                | ((with_reducible apply r_bin); rfl; rfl; exact (rfl : _ = Value.string _); exact (rfl : _ = Value.string _); refine Eq.trans (neq_str s t) ?_; rw [hq])
                | ((with_reducible apply r_idxS (j := i * 1)); rfl; rfl; exact (rfl : _ = Value.slice (some ⟨_, _, _⟩) _ _); (exact (rfl : _ = Value.int _ _)); (exact (rfl : _ = some (_, 1))); omega; omega; omega)
                | ((with_reducible apply r_move); rfl; rfl; (first
                | exact (rfl : _ = Value.int _ _)
                | exact (rfl : _ = Value.slice _ _ _)
                | exact (rfl : _ = Value.string _)))
                | ((with_reducible apply r_assign); rfl; rfl; (first
                | exact (rfl : _ = Value.int _ _)
                | exact (rfl : _ = Value.string _)))
                | ((with_reducible apply r_bin); rfl; rfl; (exact (rfl : _ = Value.int _ _)); (exact (rfl : _ = Value.int _ _)); (first
                | with_reducible exact lss_t (by omega)
                | with_reducible exact bin_add rfl (by omega) (by omega)))
                | with_reducible refine r_doneN ?_
                | with_reducible refine c_reg ?_
                | with_reducible refine c_seq ?_
                | with_reducible refine c_block ?_
                | with_reducible refine c_skip ?_
                | with_reducible refine x_then ?_
                | with_reducible refine x_blockN ?_
                | ((with_reducible apply c_true); rfl)
                | ((with_reducible apply c_false); rfl))
              refine x_round ⟨i + 1, ⟨by omega, hnx⟩, by omega, ?_⟩
              refine weak_to (n := 11) rfl ?_ rfl ?_
              · skip
                repeat (first | exact trivial | refine ⟨.inl rfl, ?_⟩ | refine ⟨.inr ⟨rfl, rfl⟩, ?_⟩)
              · simp [dsR, dgB, dsB, stpB, txB]
            | false =>
              have hnx : clashT TA TB = some (s, t) := by rw [← hinv]; show (if sameT s t then _ else _) = _; rw [hq]; rfl
              rw [hnx]
              repeat (first
                | ((with_reducible apply r_load); rfl; rfl; exact (rfl : _ = Value.pointer (some ⟨7, _, _⟩)); exact (show _ = some (Value.string s) from loadA_at rfl rfl (by simpa using hAt) rfl))
                | ((with_reducible apply r_load); rfl; rfl; exact (rfl : _ = Value.pointer (some ⟨10, _, _⟩)); exact (show _ = some (Value.string t) from loadA_at rfl rfl (by simpa using hBt) rfl))
                | ((with_reducible apply r_bin); rfl; rfl; exact (rfl : _ = Value.string _); exact (rfl : _ = Value.string _); refine Eq.trans (neq_str s t) ?_; rw [hq])
                | ((with_reducible apply r_idxS (j := i * 1)); rfl; rfl; exact (rfl : _ = Value.slice (some ⟨_, _, _⟩) _ _); (exact (rfl : _ = Value.int _ _)); (exact (rfl : _ = some (_, 1))); omega; omega; omega)
                | ((with_reducible apply r_move); rfl; rfl; (first
                | exact (rfl : _ = Value.int _ _)
                | exact (rfl : _ = Value.slice _ _ _)
                | exact (rfl : _ = Value.string _)))
                | ((with_reducible apply r_assign); rfl; rfl; (first
                | exact (rfl : _ = Value.int _ _)
                | exact (rfl : _ = Value.bool _)
                | exact (rfl : _ = Value.string _)))
                | ((with_reducible apply r_bin); rfl; rfl; (exact (rfl : _ = Value.int _ _)); (exact (rfl : _ = Value.int _ _)); (with_reducible exact lss_t (by omega)))
                | with_reducible refine r_doneN ?_
                | with_reducible refine c_reg ?_
                | with_reducible refine c_seq ?_
                | with_reducible refine c_block ?_
                | with_reducible refine c_skip ?_
                | with_reducible refine c_ret ?_
                | with_reducible refine x_then ?_
                | with_reducible refine x_thenR ?_
                | with_reducible refine x_blockR ?_
                | with_reducible refine x_leaveR ?_
                | (with_reducible refine r_doneD (by kernel_rfl) ?_)
                | (with_reducible refine c_draw (by kernel_rfl) ?_)
                | ((with_reducible apply c_true); rfl))
              refine x_end ?_
              exact end_same (v := clashV (some (s, t))) rfl rfl rfl hend ⟨rfl, rfl, rfl, trivial⟩
          · have hnx : clashT TA TB = none := by
              rw [← hinv, List.drop_of_length_le (by omega), List.drop_of_length_le (by omega)]; rfl
            rw [hnx]
            repeat (first
              | ((with_reducible apply r_assign); rfl; rfl; (first
              | exact (rfl : _ = Value.bool _)
              | exact (rfl : _ = Value.string _)))
              | ((with_reducible apply r_bin); rfl; rfl; (exact (rfl : _ = Value.int _ _)); (exact (rfl : _ = Value.int _ _)); (with_reducible exact lss_f (by omega)))
              | with_reducible refine r_doneN ?_
              | with_reducible refine c_reg ?_
              | with_reducible refine c_seq ?_
              | with_reducible refine c_exit ?_
              | with_reducible refine c_ret ?_
              | with_reducible refine x_then ?_
              | with_reducible refine x_thenE ?_
              | with_reducible refine x_leaveE ?_
              | ((with_reducible apply c_false); rfl)
              | ((with_reducible apply x_block); rfl))
            refine x_end ?_
            exact end_same (v := clashV none) rfl rfl rfl hend ⟨rfl, rfl, rfl, trivial⟩
      · rw [show clashE kk root size index a p b q = none from by unfold clashE; rw [if_pos (.inr (.inr hz2))]]
        rw [hz1] at hI1
        generalize inclE kk root b size index q = z at *
        repeat (first
          | ((with_reducible apply r_load); rfl; rfl; exact (rfl : _ = Value.pointer (some ⟨2, _, _⟩)); exact (show _ = some (dgV root) by kernel_rfl))
          | ((with_reducible apply r_load); rfl; rfl; exact (rfl : _ = Value.pointer (some ⟨3, _, _⟩)); exact (show _ = some (dgV a) by kernel_rfl))
          | ((with_reducible apply r_load); rfl; rfl; exact (rfl : _ = Value.pointer (some ⟨4, _, _⟩)); exact (show _ = some (dgV b) by kernel_rfl))
          | ((with_reducible apply r_bin); rfl; rfl; exact (rfl : _ = Value.agg _); exact (rfl : _ = Value.agg _); refine Eq.trans (eql_dg (a := a) (b := b) (by kernel_rfl) rfl rfl rfl) ?_; rw [hs])
          | ((with_reducible apply r_callN (e := [some (0, 0)]) (nid := 0) hI1); rfl; rfl; rfl; rfl; rfl; rfl; rfl; refine ⟨⟨rfl, rfl, rfl, rfl, ⟨rfl, rfl, rfl, by omega, by omega⟩, trivial⟩, ⟨emb_ro rfl rfl (by show 0 + (dsC _).length ≤ (dsC _).length; omega) (dsC_whole _), trivial⟩, rfl, rfl, rfl⟩; exact (show _ = Value.int .i64 0 by kernel_rfl); exact (rfl : _ = _ :: _))
          | ((with_reducible apply r_callN (e := [some (1, 0)]) (nid := 0) hI2); rfl; rfl; rfl; rfl; rfl; rfl; rfl; refine ⟨⟨rfl, rfl, rfl, rfl, ⟨rfl, rfl, rfl, by omega, by omega⟩, trivial⟩, ⟨emb_ro rfl rfl (by show 0 + (dsC _).length ≤ (dsC _).length; omega) (dsC_whole _), trivial⟩, rfl, rfl, rfl⟩; exact (show _ = Value.int .i64 z by kernel_rfl); exact (rfl : _ = _ :: _))
          | ((with_reducible apply r_move); rfl; rfl; (first
          | exact (rfl : _ = Value.int _ _)
          | exact (rfl : _ = Value.bool _)
          | exact (rfl : _ = Value.slice _ _ _)))
          | ((with_reducible apply r_assign); rfl; rfl; (first
          | exact (rfl : _ = Value.bool _)
          | exact (rfl : _ = Value.string _)))
          | ((with_reducible apply r_bin); rfl; rfl; (exact (rfl : _ = Value.int _ _)); (exact (rfl : _ = Value.int _ _)); (first
          | with_reducible exact neq_t (by omega)
          | with_reducible exact neq_f (by omega)))
          | ((with_reducible apply r_pick); rfl; rfl; (exact (rfl : _ = some (Value.bool _))))
          | ((with_reducible apply r_box (nid := 2)); rfl; rfl; (exact (rfl : _ = Value.agg _)); rfl; exact (rfl : _ = _ :: _))
          | ((with_reducible apply r_box (nid := 3)); rfl; rfl; (exact (rfl : _ = Value.agg _)); rfl; exact (rfl : _ = _ :: _))
          | ((with_reducible apply r_box (nid := 4)); rfl; rfl; (exact (rfl : _ = Value.agg _)); rfl; exact (rfl : _ = _ :: _))
          | with_reducible refine r_doneN ?_
          | with_reducible refine c_reg ?_
          | with_reducible refine c_seq ?_
          | with_reducible refine c_ret ?_
          | with_reducible refine x_then ?_
          | with_reducible refine x_thenR ?_
          | ((with_reducible apply c_true); rfl))
        refine x_end ?_
        exact end_same (v := clashV none) rfl rfl rfl hend ⟨rfl, rfl, rfl, trivial⟩
    · rw [show clashE kk root size index a p b q = none from by unfold clashE; rw [if_pos (.inr (.inl hz1))]]
      generalize inclE kk root a size index p = z at *
      repeat (first
        | ((with_reducible apply r_load); rfl; rfl; exact (rfl : _ = Value.pointer (some ⟨2, _, _⟩)); exact (show _ = some (dgV root) by kernel_rfl))
        | ((with_reducible apply r_load); rfl; rfl; exact (rfl : _ = Value.pointer (some ⟨3, _, _⟩)); exact (show _ = some (dgV a) by kernel_rfl))
        | ((with_reducible apply r_load); rfl; rfl; exact (rfl : _ = Value.pointer (some ⟨4, _, _⟩)); exact (show _ = some (dgV b) by kernel_rfl))
        | ((with_reducible apply r_bin); rfl; rfl; exact (rfl : _ = Value.agg _); exact (rfl : _ = Value.agg _); refine Eq.trans (eql_dg (a := a) (b := b) (by kernel_rfl) rfl rfl rfl) ?_; rw [hs])
        | ((with_reducible apply r_callN (e := [some (0, 0)]) (nid := 0) hI1); rfl; rfl; rfl; rfl; rfl; rfl; rfl; refine ⟨⟨rfl, rfl, rfl, rfl, ⟨rfl, rfl, rfl, by omega, by omega⟩, trivial⟩, ⟨emb_ro rfl rfl (by show 0 + (dsC _).length ≤ (dsC _).length; omega) (dsC_whole _), trivial⟩, rfl, rfl, rfl⟩; exact (show _ = Value.int .i64 z by kernel_rfl); exact (rfl : _ = _ :: _))
        | ((with_reducible apply r_move); rfl; rfl; (first
        | exact (rfl : _ = Value.int _ _)
        | exact (rfl : _ = Value.bool _)
        | exact (rfl : _ = Value.slice _ _ _)))
        | ((with_reducible apply r_assign); rfl; rfl; (first
        | exact (rfl : _ = Value.bool _)
        | exact (rfl : _ = Value.string _)))
        | ((with_reducible apply r_bin); rfl; rfl; (exact (rfl : _ = Value.int _ _)); (exact (rfl : _ = Value.int _ _)); (with_reducible exact neq_t (by omega)))
        | ((with_reducible apply r_pick); rfl; rfl; (exact (rfl : _ = some (Value.bool _))))
        | ((with_reducible apply r_box (nid := 2)); rfl; rfl; (exact (rfl : _ = Value.agg _)); rfl; exact (rfl : _ = _ :: _))
        | ((with_reducible apply r_box (nid := 3)); rfl; rfl; (exact (rfl : _ = Value.agg _)); rfl; exact (rfl : _ = _ :: _))
        | ((with_reducible apply r_box (nid := 4)); rfl; rfl; (exact (rfl : _ = Value.agg _)); rfl; exact (rfl : _ = _ :: _))
        | ((with_reducible apply r_skip); rfl; rfl)
        | with_reducible refine r_doneN ?_
        | with_reducible refine c_reg ?_
        | with_reducible refine c_seq ?_
        | with_reducible refine c_ret ?_
        | with_reducible refine x_then ?_
        | with_reducible refine x_thenR ?_
        | ((with_reducible apply c_true); rfl))
      refine x_end ?_
      exact end_same (v := clashV none) rfl rfl rfl hend ⟨rfl, rfl, rfl, trivial⟩
end Go.Flat
