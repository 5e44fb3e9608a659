/- Walks of package check: what each function computes, for every input within the bounds that each theorem names. -/
import Derived.Test.YtajjalickpkkkaaDoorK11
set_option linter.unusedVariables false
set_option linter.unusedSimpArgs false
namespace Go.Flat
open Go.Proofs
variable {G : Glob}
/-- What the reference's 'Makes' answers. -/
def makesF (kk : Nat → BitVec 32) (size index : Nat) (leaf : D) (ds : List D) : D × Bool :=
  if h : size ≤ 1 then (leaf, ds.length == 0)
  else if ds.length = 0 then (leaf, false)
  else if index < splitN size then (knotF kk (makesF kk (splitN size) index leaf (ds.take (ds.length - 1))).1 (ds.getD (ds.length - 1) d0), (makesF kk (splitN size) index leaf (ds.take (ds.length - 1))).2)
  else (knotF kk (ds.getD (ds.length - 1) d0) (makesF kk (size - splitN size) (index - splitN size) leaf (ds.take (ds.length - 1))).1, (makesF kk (size - splitN size) (index - splitN size) leaf (ds.take (ds.length - 1))).2)
termination_by size
decreasing_by
  · exact (splitN_pos (n := size) (by omega)).2
  · have := splitN_pos (n := size) (by omega); omega
theorem makesF_one (kk : Nat → BitVec 32) (index : Nat) (leaf : D) (ds : List D) : makesF kk 1 index leaf ds = (leaf, ds.length == 0) := by
  rw [makesF, dif_pos (by omega)]
theorem makesF_nil (kk : Nat → BitVec 32) {size : Nat} (index : Nat) (leaf : D) {ds : List D} (h : 2 ≤ size) (h0 : ds.length = 0) : makesF kk size index leaf ds = (leaf, false) := by
  rw [makesF, dif_neg (by omega), if_pos h0]
theorem makesF_lo (kk : Nat → BitVec 32) {size index : Nat} (leaf : D) {ds : List D} (h : 2 ≤ size) (h0 : ds.length ≠ 0) (hi : index < splitN size) : makesF kk size index leaf ds = (knotF kk (makesF kk (splitN size) index leaf (ds.take (ds.length - 1))).1 (ds.getD (ds.length - 1) d0), (makesF kk (splitN size) index leaf (ds.take (ds.length - 1))).2) := by
  rw [makesF, dif_neg (by omega), if_neg h0, if_pos hi]
theorem makesF_hi (kk : Nat → BitVec 32) {size index : Nat} (leaf : D) {ds : List D} (h : 2 ≤ size) (h0 : ds.length ≠ 0) (hi : splitN size ≤ index) : makesF kk size index leaf ds = (knotF kk (ds.getD (ds.length - 1) d0) (makesF kk (size - splitN size) (index - splitN size) leaf (ds.take (ds.length - 1))).1, (makesF kk (size - splitN size) (index - splitN size) leaf (ds.take (ds.length - 1))).2) := by
  rw [makesF, dif_neg (by omega), if_neg h0, if_neg (by omega)]
/-- It makes what the way makes. -/
theorem makes_way (kk : Nat → BitVec 32) (leaf : D) : ∀ (n size index : Nat) (ds : List D), size ≤ n → 1 ≤ size →
    (∀ l, wayF size index ds = some l → makesF kk size index leaf ds = ((knA kk leaf l).getD 0 d0, true)) ∧ (wayF size index ds = none → (makesF kk size index leaf ds).2 = false)
  | 0, size, index, ds, h, h1 => by omega
  | n + 1, size, index, ds, h, h1 => by
    by_cases h2 : 2 ≤ size
    · rcases Nat.eq_zero_or_pos ds.length with h0 | h0
      · rw [wayF_nil index h2 h0, makesF_nil kk index leaf h2 h0]
        exact ⟨fun l hl => (by cases hl), fun _ => rfl⟩
      · obtain ⟨p1, p2⟩ := splitN_pos (n := size) h2
        by_cases hi : index < splitN size
        · obtain ⟨i1, i2⟩ := makes_way kk leaf n (splitN size) index (ds.take (ds.length - 1)) (by omega) (by omega)
          rw [wayF_lo h2 h0 hi, makesF_lo kk leaf h2 (by omega) hi]
          refine ⟨fun l hl => ?_, fun hl => ?_⟩
          · obtain ⟨l', h3, rfl⟩ := Option.map_eq_some_iff.1 hl
            rw [i1 l' h3]
            simp [knA]
          · exact i2 (Option.map_eq_none_iff.1 hl)
        · obtain ⟨i1, i2⟩ := makes_way kk leaf n (size - splitN size) (index - splitN size) (ds.take (ds.length - 1)) (by omega) (by omega)
          rw [wayF_hi h2 h0 (by omega), makesF_hi kk leaf h2 (by omega) (by omega)]
          refine ⟨fun l hl => ?_, fun hl => ?_⟩
          · obtain ⟨l', h3, rfl⟩ := Option.map_eq_some_iff.1 hl
            rw [i1 l' h3]
            simp [knA]
          · exact i2 (Option.map_eq_none_iff.1 hl)
    · obtain rfl : size = 1 := by omega
      rw [wayF_one index ds (by omega), makesF_one]
      by_cases h0 : ds.length = 0
      · rw [if_pos h0]
        refine ⟨fun l hl => ?_, fun hl => by cases hl⟩
        injection hl with hl; subst hl
        simp [knA, h0]
      · rw [if_neg h0]
        exact ⟨fun l hl => (by cases hl), fun _ => by simpa using h0⟩
set_option maxRecDepth 20000 in
set_option maxHeartbeats 8000000 in
theorem Makes_ok (kk : Nat → BitVec 32) (hG0 : G 0 = some (rowE w32 64 kk)) (leaf : D) : ∀ (size index : Nat) (ds : List D) (n c : Nat), ds.length = n → n ≤ 1000 → n ≤ c → 1 ≤ size → size ≤ 1000000 → index ≤ 1000000 →
    CallL Tryd.prog G 28 [.int .i64 (size : Nat), .int .i64 (index : Nat), dgV leaf, slv 0 0 n c] [dsR ds] (.tuple #[dgV (makesF kk size index leaf ds).1, .bool (makesF kk size index leaf ds).2]) [dsR ds] := by
  intro size
  induction size using Nat.strongRecOn with
  | ind size ih =>
    intro index ds n c hn hb hc h1 hs hi
    have hK := fun a b => (refKF_eq kk a b) ▸ refKnot_ok (G := G) kk hG0 a b
    have hend : (([dsR ds] : List Blk).all (keptB ([dsR ds] : List Blk).length)) = true := by simp [keptB, dsR]
    refine walk (fn := Tryd.f28) (nt := 76) rfl rfl rfl rfl ?_
    refine c_hole 4 (H' := [dsR ds, hole, hole, hole, hole]) rfl ?_
    by_cases hs1 : size = 1
    · subst hs1
      rw [makesF_one]
      by_cases h0 : n = 0
      · subst h0
        rw [show (ds.length == 0) = true by simp [hn]]
        repeat (first
          | ((with_reducible apply r_load); rfl; rfl; exact (rfl : _ = Value.pointer (some ⟨1, _, _⟩)); exact (show _ = some (dgV leaf) by kernel_rfl))
          | ((with_reducible apply r_move); rfl; rfl; (first
          | exact (rfl : _ = Value.int _ _)
          | exact (rfl : _ = Value.bool _)
          | exact (rfl : _ = Value.slice _ _ _)))
          | ((with_reducible apply r_assign); rfl; rfl; (first
          | exact (rfl : _ = Value.int _ _)
          | exact (rfl : _ = Value.bool _)))
          | ((with_reducible apply r_bin); rfl; rfl; (exact (rfl : _ = Value.int _ _)); (exact (rfl : _ = Value.int _ _)); (with_reducible exact eql_t (by omega)))
          | ((with_reducible apply r_pick); rfl; rfl; (exact (rfl : _ = some (Value.bool _))))
          | ((with_reducible apply r_len); rfl; rfl; (exact (rfl : _ = Value.slice _ _ _)); (exact (rfl : _ = some (Value.int _ _))))
          | ((with_reducible apply r_store); rfl; exact (rfl : _ = Value.pointer (some ⟨_, _, _⟩)); (exact (rfl : _ = Value.agg _)); (rfl); exact (rfl : _ = _ :: _))
          | ((with_reducible apply r_box (nid := 1)); rfl; rfl; (exact (rfl : _ = Value.agg _)); rfl; exact (rfl : _ = _ :: _))
          | ((with_reducible apply r_alloc (nid := 2)); rfl; rfl; rfl; exact (rfl : _ = _ :: _))
          | ((with_reducible apply r_skip); rfl; rfl)
          | with_reducible refine r_doneN ?_
          | with_reducible refine c_reg ?_
          | with_reducible refine c_seq ?_
          | with_reducible refine c_ret ?_
          | with_reducible refine x_then ?_
          | with_reducible refine x_thenR ?_
          | ((with_reducible apply c_true); rfl))
        refine x_end ?_
        exact end_same (v := .tuple #[dgV leaf, .bool true]) (by kernel_rfl) rfl rfl hend ⟨argV_pure (pure_row fun _ => rfl) rfl, rfl, trivial⟩
      · rw [show (ds.length == 0) = false by simp [hn, h0]]
        repeat (first
          | ((with_reducible apply r_load); rfl; rfl; exact (rfl : _ = Value.pointer (some ⟨1, _, _⟩)); exact (show _ = some (dgV leaf) by kernel_rfl))
          | ((with_reducible apply r_move); rfl; rfl; (first
          | exact (rfl : _ = Value.int _ _)
          | exact (rfl : _ = Value.bool _)
          | exact (rfl : _ = Value.slice _ _ _)))
          | ((with_reducible apply r_assign); rfl; rfl; (first
          | exact (rfl : _ = Value.int _ _)
          | exact (rfl : _ = Value.bool _)))
          | ((with_reducible apply r_bin); rfl; rfl; (exact (rfl : _ = Value.int _ _)); (exact (rfl : _ = Value.int _ _)); (first
          | with_reducible exact eql_t (by omega)
          | with_reducible exact eql_f (by omega)))
          | ((with_reducible apply r_pick); rfl; rfl; (exact (rfl : _ = some (Value.bool _))))
          | ((with_reducible apply r_len); rfl; rfl; (exact (rfl : _ = Value.slice _ _ _)); (exact (rfl : _ = some (Value.int _ _))))
          | ((with_reducible apply r_store); rfl; exact (rfl : _ = Value.pointer (some ⟨_, _, _⟩)); (exact (rfl : _ = Value.agg _)); (rfl); exact (rfl : _ = _ :: _))
          | ((with_reducible apply r_box (nid := 1)); rfl; rfl; (exact (rfl : _ = Value.agg _)); rfl; exact (rfl : _ = _ :: _))
          | ((with_reducible apply r_alloc (nid := 2)); rfl; rfl; rfl; exact (rfl : _ = _ :: _))
          | ((with_reducible apply r_skip); rfl; rfl)
          | with_reducible refine r_doneN ?_
          | with_reducible refine c_reg ?_
          | with_reducible refine c_seq ?_
          | with_reducible refine c_ret ?_
          | with_reducible refine x_then ?_
          | with_reducible refine x_thenR ?_
          | ((with_reducible apply c_true); rfl))
        refine x_end ?_
        exact end_same (v := .tuple #[dgV leaf, .bool false]) (by kernel_rfl) rfl rfl hend ⟨argV_pure (pure_row fun _ => rfl) rfl, rfl, trivial⟩
    · by_cases h0 : n = 0
      · subst h0
        rw [makesF_nil kk index leaf (by omega) hn]
        repeat (first
          | ((with_reducible apply r_load); rfl; rfl; exact (rfl : _ = Value.pointer (some ⟨1, _, _⟩)); exact (show _ = some (dgV leaf) by kernel_rfl))
          | ((with_reducible apply r_move); rfl; rfl; (first
          | exact (rfl : _ = Value.int _ _)
          | exact (rfl : _ = Value.bool _)
          | exact (rfl : _ = Value.slice _ _ _)))
          | ((with_reducible apply r_assign); rfl; rfl; (first
          | exact (rfl : _ = Value.int _ _)
          | exact (rfl : _ = Value.bool _)))
          | ((with_reducible apply r_bin); rfl; rfl; (exact (rfl : _ = Value.int _ _)); (exact (rfl : _ = Value.int _ _)); (first
          | with_reducible exact eql_t (by omega)
          | with_reducible exact eql_f (by omega)))
          | ((with_reducible apply r_pick); rfl; rfl; (exact (rfl : _ = some (Value.bool _))))
          | ((with_reducible apply r_len); rfl; rfl; (exact (rfl : _ = Value.slice _ _ _)); (exact (rfl : _ = some (Value.int _ _))))
          | ((with_reducible apply r_store); rfl; exact (rfl : _ = Value.pointer (some ⟨_, _, _⟩)); (exact (rfl : _ = Value.agg _)); (rfl); exact (rfl : _ = _ :: _))
          | ((with_reducible apply r_box (nid := 1)); rfl; rfl; (exact (rfl : _ = Value.agg _)); rfl; exact (rfl : _ = _ :: _))
          | ((with_reducible apply r_alloc (nid := 2)); rfl; rfl; rfl; exact (rfl : _ = _ :: _))
          | ((with_reducible apply r_skip); rfl; rfl)
          | with_reducible refine r_doneN ?_
          | with_reducible refine c_reg ?_
          | with_reducible refine c_seq ?_
          | with_reducible refine c_ret ?_
          | with_reducible refine x_then ?_
          | with_reducible refine x_thenR ?_
          | ((with_reducible apply c_true); rfl))
        refine x_end ?_
        exact end_same (v := .tuple #[dgV leaf, .bool false]) (by kernel_rfl) rfl rfl hend ⟨argV_pure (pure_row fun _ => rfl) rfl, rfl, trivial⟩
      · obtain ⟨m, rfl⟩ : ∃ p, n = p + 1 := ⟨n - 1, by omega⟩
        have hS := refSplit_ok (G := G) (size : Int) (by omega) (by omega)
        have hsz : splitF (size : Int) = (splitN size : Nat) := (splitF_pos (n := size) (by omega)).2.2
        rw [hsz] at hS
        obtain ⟨p1, p2⟩ := splitN_pos (n := size) (by omega)
        have w1 := makesF_lo kk (size := size) (index := index) leaf (ds := ds) (by omega) (by omega)
        have w2 := makesF_hi kk (size := size) (index := index) leaf (ds := ds) (by omega) (by omega)
        have hgd : ds.getD (ds.length - 1) d0 = ds.getD m d0 := by rw [hn]; rfl
        have htk : ds.take (ds.length - 1) = sub ds 0 m := by rw [hn]; simp [sub]
        have hAt := dsC_atI ds m (by omega)
        have hcl : (dsR ds).cells.length = (m + 1) * 32 := by show (dsC ds).length = _; rw [dsC_len, hn]
        rw [hgd, htk] at w1 w2
        generalize ds.getD m d0 = x at *
        generalize splitN size = k at *
        by_cases hk : index < k
        · have hM := ih k p2 index (sub ds 0 m) m c (sub_len (by omega)) (by omega) (by omega) (by omega) (by omega) hi
          rw [w1 hk]
          generalize makesF kk k index leaf (sub ds 0 m) = r at *
          obtain ⟨y, ok⟩ := r
          have hK1 := hK y x
          dsimp only at hM ⊢
          repeat (first
            | ((with_reducible apply r_slice); rfl; rfl; exact (rfl : _ = Value.slice (some ⟨_, _, _⟩) _ _); rfl; rfl; exact slice_hi (h := m) rfl rfl (by omega) (by omega) rfl)
            | ((with_reducible apply r_load); rfl; rfl; exact (rfl : _ = Value.pointer (some ⟨1, _, _⟩)); exact (show _ = some (dgV leaf) by kernel_rfl))
            | ((with_reducible apply r_box (nid := 1)); rfl; rfl; exact (rfl : _ = Value.agg _); rfl; exact (show _ = [dsR ds, dgB leaf, hole, hole, hole] by kernel_rfl))
            | ((with_reducible apply r_alloc (nid := 2)); rfl; rfl; rfl; exact (show _ = [dsR ds, dgB leaf, dgB dz, hole, hole] by kernel_rfl))
            | ((with_reducible apply r_alloc (nid := 3)); rfl; rfl; rfl; exact (show _ = [dsR ds, dgB leaf, dgB dz, dgB dz, hole] by kernel_rfl))
            | ((with_reducible apply r_alloc (nid := 4)); rfl; rfl; rfl; exact (show _ = [dsR ds, dgB leaf, dgB dz, dgB x, dgB dz] by kernel_rfl))
            | ((with_reducible apply r_store); rfl; exact (rfl : _ = Value.pointer (some ⟨3, _, _⟩)); exact (rfl : _ = Value.agg _); exact (show _ = some (3, dgB x) by kernel_rfl); exact (show _ = [dsR ds, dgB leaf, dgB dz, dgB x, hole] by kernel_rfl))
            | ((with_reducible apply r_store); rfl; exact (rfl : _ = Value.pointer (some ⟨4, _, _⟩)); exact (rfl : _ = Value.agg _); exact (show _ = some (4, dgB y) by kernel_rfl); exact (show _ = [dsR ds, dgB leaf, dgB dz, dgB x, dgB y] by kernel_rfl))
            | ((with_reducible apply r_store); rfl; exact (rfl : _ = Value.pointer (some ⟨2, _, _⟩)); exact (rfl : _ = Value.agg _); exact (show _ = some (2, dgB (knotF kk y x)) by kernel_rfl); exact (show _ = [dsR ds, dgB leaf, dgB (knotF kk y x), dgB x, dgB y] by kernel_rfl))
            | ((with_reducible apply r_load); rfl; rfl; exact (rfl : _ = Value.pointer (some ⟨0, _, _⟩)); exact (show _ = some (dgV x) from loadA_agg (n := 32) rfl rfl (by omega) hAt))
            | ((with_reducible apply r_load); rfl; rfl; exact (rfl : _ = Value.pointer (some ⟨3, _, _⟩)); exact (show _ = some (dgV x) by kernel_rfl))
            | ((with_reducible apply r_load); rfl; rfl; exact (rfl : _ = Value.pointer (some ⟨4, _, _⟩)); exact (show _ = some (dgV y) by kernel_rfl))
            | ((with_reducible apply r_callN (e := [some (0, 0)]) (nid := 0) hM); rfl; rfl; rfl; rfl; rfl; rfl; rfl; refine ⟨⟨rfl, rfl, rfl, ⟨rfl, rfl, rfl, by omega, by omega⟩, trivial⟩, ⟨emb_sub rfl (.inl rfl) (by omega) rfl, trivial⟩, rfl, rfl, rfl⟩; exact (show _ = Value.tuple #[dgV y, .bool ok] by kernel_rfl); exact (rfl : _ = _ :: _))
            | ((with_reducible apply r_idxS (j := m * 32)); rfl; rfl; exact (rfl : _ = Value.slice (some ⟨_, _, _⟩) _ _); (exact (rfl : _ = Value.int _ _)); (exact (rfl : _ = some (_, 32))); omega; omega; omega)
            | ((with_reducible apply r_move); rfl; rfl; (first
            | exact (rfl : _ = Value.int _ _)
            | exact (rfl : _ = Value.bool _)
            | exact (rfl : _ = Value.slice _ _ _)
            | exact (rfl : _ = Value.tuple _)))
            | ((with_reducible apply r_assign); rfl; rfl; (first
            | exact (rfl : _ = Value.int _ _)
            | exact (rfl : _ = Value.bool _)))
            | ((with_reducible apply r_bin); rfl; rfl; (exact (rfl : _ = Value.int _ _)); (exact (rfl : _ = Value.int _ _)); (first
            | with_reducible exact lss_t (by omega)
            | with_reducible exact eql_f (by omega)
            | with_reducible exact bin_sub rfl (by omega) (by omega)))
            | ((with_reducible apply r_pick); rfl; rfl; (exact (rfl : _ = some (Value.bool _))))
            | ((with_reducible apply r_len); rfl; rfl; (exact (rfl : _ = Value.slice _ _ _)); (exact (rfl : _ = some (Value.int _ _))))
            | ((with_reducible apply r_extract); rfl; rfl; rfl; (first
            | exact (rfl : _ = some (Value.bool _))
            | exact (rfl : _ = some (Value.agg _))))
            | ((with_reducible apply r_callP (hS)); rfl; rfl; rfl; rfl; rfl; (exact (rfl : _ = Value.int _ _)))
            | ((with_reducible apply r_callP (hK1)); rfl; rfl; rfl; rfl; rfl; (exact (rfl : _ = Value.agg _)))
            | with_reducible refine r_doneN ?_
            | with_reducible refine c_reg ?_
            | with_reducible refine c_seq ?_
            | with_reducible refine c_skip ?_
            | with_reducible refine c_ret ?_
            | with_reducible refine x_then ?_
            | with_reducible refine x_thenR ?_
            | (with_reducible refine r_doneD (by kernel_rfl) ?_)
            | (with_reducible refine c_draw (by kernel_rfl) ?_)
            | ((with_reducible apply c_true); rfl)
            | ((with_reducible apply c_false); rfl))
          refine x_end ?_
          exact end_same (v := .tuple #[dgV (knotF kk y x), .bool ok]) (by kernel_rfl) rfl rfl hend ⟨argV_pure (pure_row fun _ => rfl) rfl, rfl, trivial⟩
        · have hM := ih (size - k) (by omega) (index - k) (sub ds 0 m) m c (sub_len (by omega)) (by omega) (by omega) (by omega) (by omega) (by omega)
          rw [show ((size - k : Nat) : Int) = (size : Int) - k from by omega, show ((index - k : Nat) : Int) = (index : Int) - k from by omega] at hM
          rw [w2 (by omega)]
          generalize makesF kk (size - k) (index - k) leaf (sub ds 0 m) = r at *
          obtain ⟨y, ok⟩ := r
          have hK1 := hK x y
          dsimp only at hM ⊢
          repeat (first
            | ((with_reducible apply r_slice); rfl; rfl; exact (rfl : _ = Value.slice (some ⟨_, _, _⟩) _ _); rfl; rfl; exact slice_hi (h := m) rfl rfl (by omega) (by omega) rfl)
            | ((with_reducible apply r_load); rfl; rfl; exact (rfl : _ = Value.pointer (some ⟨1, _, _⟩)); exact (show _ = some (dgV leaf) by kernel_rfl))
            | ((with_reducible apply r_box (nid := 1)); rfl; rfl; exact (rfl : _ = Value.agg _); rfl; exact (show _ = [dsR ds, dgB leaf, hole, hole, hole] by kernel_rfl))
            | ((with_reducible apply r_alloc (nid := 2)); rfl; rfl; rfl; exact (show _ = [dsR ds, dgB leaf, dgB dz, hole, hole] by kernel_rfl))
            | ((with_reducible apply r_alloc (nid := 3)); rfl; rfl; rfl; exact (show _ = [dsR ds, dgB leaf, dgB dz, dgB dz, hole] by kernel_rfl))
            | ((with_reducible apply r_alloc (nid := 4)); rfl; rfl; rfl; exact (show _ = [dsR ds, dgB leaf, dgB dz, dgB x, dgB dz] by kernel_rfl))
            | ((with_reducible apply r_store); rfl; exact (rfl : _ = Value.pointer (some ⟨3, _, _⟩)); exact (rfl : _ = Value.agg _); exact (show _ = some (3, dgB x) by kernel_rfl); exact (show _ = [dsR ds, dgB leaf, dgB dz, dgB x, hole] by kernel_rfl))
            | ((with_reducible apply r_store); rfl; exact (rfl : _ = Value.pointer (some ⟨4, _, _⟩)); exact (rfl : _ = Value.agg _); exact (show _ = some (4, dgB y) by kernel_rfl); exact (show _ = [dsR ds, dgB leaf, dgB dz, dgB x, dgB y] by kernel_rfl))
            | ((with_reducible apply r_store); rfl; exact (rfl : _ = Value.pointer (some ⟨2, _, _⟩)); exact (rfl : _ = Value.agg _); exact (show _ = some (2, dgB (knotF kk x y)) by kernel_rfl); exact (show _ = [dsR ds, dgB leaf, dgB (knotF kk x y), dgB x, dgB y] by kernel_rfl))
            | ((with_reducible apply r_load); rfl; rfl; exact (rfl : _ = Value.pointer (some ⟨0, _, _⟩)); exact (show _ = some (dgV x) from loadA_agg (n := 32) rfl rfl (by omega) hAt))
            | ((with_reducible apply r_load); rfl; rfl; exact (rfl : _ = Value.pointer (some ⟨3, _, _⟩)); exact (show _ = some (dgV x) by kernel_rfl))
            | ((with_reducible apply r_load); rfl; rfl; exact (rfl : _ = Value.pointer (some ⟨4, _, _⟩)); exact (show _ = some (dgV y) by kernel_rfl))
            | ((with_reducible apply r_callN (e := [some (0, 0)]) (nid := 0) hM); rfl; rfl; rfl; rfl; rfl; rfl; rfl; refine ⟨⟨rfl, rfl, rfl, ⟨rfl, rfl, rfl, by omega, by omega⟩, trivial⟩, ⟨emb_sub rfl (.inl rfl) (by omega) rfl, trivial⟩, rfl, rfl, rfl⟩; exact (show _ = Value.tuple #[dgV y, .bool ok] by kernel_rfl); exact (rfl : _ = _ :: _))
            | ((with_reducible apply r_idxS (j := m * 32)); rfl; rfl; exact (rfl : _ = Value.slice (some ⟨_, _, _⟩) _ _); (exact (rfl : _ = Value.int _ _)); (exact (rfl : _ = some (_, 32))); omega; omega; omega)
            | ((with_reducible apply r_move); rfl; rfl; (first
            | exact (rfl : _ = Value.int _ _)
            | exact (rfl : _ = Value.bool _)
            | exact (rfl : _ = Value.slice _ _ _)
            | exact (rfl : _ = Value.tuple _)))
            | ((with_reducible apply r_assign); rfl; rfl; (first
            | exact (rfl : _ = Value.int _ _)
            | exact (rfl : _ = Value.bool _)))
            | ((with_reducible apply r_bin); rfl; rfl; (exact (rfl : _ = Value.int _ _)); (exact (rfl : _ = Value.int _ _)); (first
            | with_reducible exact lss_f (by omega)
            | with_reducible exact eql_f (by omega)
            | with_reducible exact bin_sub rfl (by omega) (by omega)))
            | ((with_reducible apply r_pick); rfl; rfl; (exact (rfl : _ = some (Value.bool _))))
            | ((with_reducible apply r_len); rfl; rfl; (exact (rfl : _ = Value.slice _ _ _)); (exact (rfl : _ = some (Value.int _ _))))
            | ((with_reducible apply r_extract); rfl; rfl; rfl; (first
            | exact (rfl : _ = some (Value.bool _))
            | exact (rfl : _ = some (Value.agg _))))
            | ((with_reducible apply r_callP (hS)); rfl; rfl; rfl; rfl; rfl; (exact (rfl : _ = Value.int _ _)))
            | ((with_reducible apply r_callP (hK1)); rfl; rfl; rfl; rfl; rfl; (exact (rfl : _ = Value.agg _)))
            | with_reducible refine r_doneN ?_
            | with_reducible refine c_reg ?_
            | with_reducible refine c_seq ?_
            | with_reducible refine c_skip ?_
            | with_reducible refine c_ret ?_
            | with_reducible refine x_then ?_
            | (with_reducible refine r_doneD (by kernel_rfl) ?_)
            | (with_reducible refine c_draw (by kernel_rfl) ?_)
            | ((with_reducible apply c_false); rfl))
          refine x_end ?_
          exact end_same (v := .tuple #[dgV (knotF kk x y), .bool ok]) (by kernel_rfl) rfl rfl hend ⟨argV_pure (pure_row fun _ => rfl) rfl, rfl, trivial⟩
end Go.Flat
