/- Walks and plain laws: what each theorem says, within the bounds that it names. -/
import Derived.Test.YtgmnjggeffdjhaaDoorK8
set_option linter.unusedVariables false
set_option linter.unusedSimpArgs false
set_option maxRecDepth 20000
namespace Go.Flat
open Go.Proofs
variable {G : Glob}
set_option maxRecDepth 20000 in
set_option maxHeartbeats 8000000 in
theorem both_pan (kk : Nat → BitVec 32) (old : D) : ∀ (n m : Nat) (kn : Bool) (ds : List D) (q c : Nat), ds.length = q → q ≤ 1000 → q ≤ c → 1 ≤ m → m ≤ n → n ≤ 1000000 → bothF kk old m n kn ds = none →
    PanL Tryd.prog G 54 [.int .i64 (m : Nat), .int .i64 (n : Nat), .bool kn, slv 0 0 q c, pt 1 0, pt 2 0] [dsR ds, dgR old, fnR] := by
  intro n
  induction n using Nat.strongRecOn with
  | ind n ih =>
    intro m kn ds q c hq hb hc h1 hmn hn hw
    refine pwalk (fn := Tryd.f54) (nt := 83) rfl rfl rfl rfl ?_
    refine c_hole 3 (H' := [dsR ds, dgR old, fnR, hole, hole, hole]) rfl ?_
    by_cases hself : m = n ∧ kn = true
    · obtain ⟨rfl, rfl⟩ := hself
      rw [bothF_self] at hw
      split at hw
      · cases hw
      · rename_i h0
        have hq0 : 0 < q := by omega
        repeat (first
          | ((with_reducible apply c_regPn 2); exact rfl; exact (rfl : _ = [(⟨some 28, _, _, _, _, _⟩ : Oper), _]))
          | ((with_reducible apply r_alloc (nid := 3)); rfl; rfl; rfl; exact (show _ = [dsR ds, dgR old, fnR, dgB dz, hole, hole] by kernel_rfl))
          | ((with_reducible apply r_alloc (nid := 4)); rfl; rfl; rfl; exact (show _ = [dsR ds, dgR old, fnR, dgB dz, dgB dz, hole] by kernel_rfl))
          | ((with_reducible apply r_makeInterface); rfl; rfl; exact (rfl : _ = Value.agg _); exact (rfl : _ = some (Value.iface _ _)))
          | ((with_reducible apply r_move); rfl; rfl; (first
          | exact (rfl : _ = Value.int _ _)
          | exact (rfl : _ = Value.bool _)
          | exact (rfl : _ = Value.slice _ _ _)))
          | ((with_reducible apply r_bin); rfl; rfl; (exact (rfl : _ = Value.int _ _)); (exact (rfl : _ = Value.int _ _)); (first
          | with_reducible exact gtr_t (by omega)
          | with_reducible exact eql_t (by omega)))
          | ((with_reducible apply r_build); rfl; rfl; rfl; exact (rfl : _ = some (Value.agg _)))
          | ((with_reducible apply r_pick); rfl; rfl; (exact (rfl : _ = some (Value.bool _))))
          | ((with_reducible apply r_len); rfl; rfl; (exact (rfl : _ = Value.slice _ _ _)); (exact (rfl : _ = some (Value.int _ _))))
          | with_reducible refine r_doneN ?_
          | with_reducible refine c_reg ?_
          | with_reducible refine c_seq ?_
          | with_reducible refine x_then ?_
          | ((with_reducible apply c_true); rfl))
        refine r_done ⟨p_panic rfl rfl, fun u v => ?_⟩
        repeat (first | with_reducible refine x_thenP ?_ | with_reducible refine x_blockP ?_ | with_reducible refine x_leaveP ?_)
        exact x_pan
    · by_cases h0 : q = 0
      · subst h0
        have hL := last_pan (G := G) ds c hq
        by_cases he : m = n
        · subst he
          have hkn : kn = false := by cases kn <;> simp_all
          subst hkn
          repeat (first
            | ((with_reducible apply c_regPn 1); exact (rfl : _ = some (⟨some 34, _, _, _, _, _⟩ : Oper)); exact (rfl : _ = [_]))
            | ((with_reducible apply r_alloc (nid := 3)); rfl; rfl; rfl; exact (show _ = [dsR ds, dgR old, fnR, dgB dz, hole, hole] by kernel_rfl))
            | ((with_reducible apply r_alloc (nid := 4)); rfl; rfl; rfl; exact (show _ = [dsR ds, dgR old, fnR, dgB dz, dgB dz, hole] by kernel_rfl))
            | ((with_reducible apply r_move); rfl; rfl; (first
            | exact (rfl : _ = Value.int _ _)
            | exact (rfl : _ = Value.bool _)
            | exact (rfl : _ = Value.slice _ _ _)))
            | ((with_reducible apply r_bin); rfl; rfl; (exact (rfl : _ = Value.int _ _)); (exact (rfl : _ = Value.int _ _)); (with_reducible exact eql_t (by omega)))
            | ((with_reducible apply r_pick); rfl; rfl; (exact (rfl : _ = some (Value.bool _))))
            | with_reducible refine r_doneN ?_
            | with_reducible refine c_reg ?_
            | with_reducible refine c_seq ?_
            | with_reducible refine c_skip ?_
            | with_reducible refine x_then ?_
            | ((with_reducible apply c_false); rfl))
          refine r_done ⟨p_call (e := [some (0, 0)]) hL rfl rfl rfl rfl rfl rfl rfl rfl ⟨⟨rfl, rfl, rfl, by omega, by omega⟩, trivial⟩ ⟨emb_ro rfl rfl (by show 0 + (dsC _).length ≤ (dsC _).length; omega) (dsC_whole _), trivial⟩, fun u v => ?_⟩
          repeat (first | with_reducible refine x_thenP ?_ | with_reducible refine x_blockP ?_ | with_reducible refine x_leaveP ?_)
          exact x_pan
        repeat (first
          | ((with_reducible apply c_regPn 1); exact (rfl : _ = some (⟨some 34, _, _, _, _, _⟩ : Oper)); exact (rfl : _ = [_]))
          | ((with_reducible apply r_alloc (nid := 3)); rfl; rfl; rfl; exact (show _ = [dsR ds, dgR old, fnR, dgB dz, hole, hole] by kernel_rfl))
          | ((with_reducible apply r_alloc (nid := 4)); rfl; rfl; rfl; exact (show _ = [dsR ds, dgR old, fnR, dgB dz, dgB dz, hole] by kernel_rfl))
          | ((with_reducible apply r_move); rfl; rfl; (first
          | exact (rfl : _ = Value.int _ _)
          | exact (rfl : _ = Value.bool _)
          | exact (rfl : _ = Value.slice _ _ _)))
          | ((with_reducible apply r_bin); rfl; rfl; (exact (rfl : _ = Value.int _ _)); (exact (rfl : _ = Value.int _ _)); (with_reducible exact eql_f (by omega)))
          | ((with_reducible apply r_pick); rfl; rfl; (exact (rfl : _ = some (Value.bool _))))
          | ((with_reducible apply r_skip); rfl; rfl)
          | with_reducible refine r_doneN ?_
          | with_reducible refine c_reg ?_
          | with_reducible refine c_seq ?_
          | with_reducible refine c_skip ?_
          | with_reducible refine x_then ?_
          | ((with_reducible apply c_false); rfl))
        refine r_done ⟨p_call (e := [some (0, 0)]) hL rfl rfl rfl rfl rfl rfl rfl rfl ⟨⟨rfl, rfl, rfl, by omega, by omega⟩, trivial⟩ ⟨emb_ro rfl rfl (by show 0 + (dsC _).length ≤ (dsC _).length; omega) (dsC_whole _), trivial⟩, fun u v => ?_⟩
        repeat (first | with_reducible refine x_thenP ?_ | with_reducible refine x_blockP ?_ | with_reducible refine x_leaveP ?_)
        exact x_pan
      · obtain ⟨q, rfl⟩ : ∃ p, q = p + 1 := ⟨q - 1, by omega⟩
        have hL := last_ok (G := G) ds q c hq (by omega) hc
        have hgd : ds.getD (ds.length - 1) d0 = ds.getD q d0 := by rw [hq]; rfl
        have htk : ds.take (ds.length - 1) = sub ds 0 q := by rw [hq]; simp [sub]
        by_cases he : m = n
        · subst he
          have hkn : kn = false := by cases kn <;> simp_all
          subst hkn
          rw [bothF_end kk old m (by omega)] at hw
          split at hw
          · cases hw
          · rename_i hq1
            have hq0 : 0 < q := by omega
            generalize ds.getD q d0 = x at *
            repeat (first
              | ((with_reducible apply c_regPn 2); exact rfl; exact (rfl : _ = [(⟨some 43, _, _, _, _, _⟩ : Oper), _]))
              | ((with_reducible apply r_alloc (nid := 3)); rfl; rfl; rfl; exact (show _ = [dsR ds, dgR old, fnR, dgB dz, hole, hole] by kernel_rfl))
              | ((with_reducible apply r_alloc (nid := 4)); rfl; rfl; rfl; exact (show _ = [dsR ds, dgR old, fnR, dgB dz, dgB dz, hole] by kernel_rfl))
              | ((with_reducible apply r_alloc (nid := 5)); rfl; rfl; rfl; exact (show _ = [dsR ds, dgR old, fnR, dgB dz, dgB dz, dgB dz] by kernel_rfl))
              | ((with_reducible apply r_callN (e := [some (0, 0)]) (nid := 0) hL); rfl; rfl; rfl; rfl; rfl; rfl; rfl; refine ⟨⟨⟨rfl, rfl, rfl, by omega, by omega⟩, trivial⟩, ⟨emb_ro rfl rfl (by show 0 + (dsC _).length ≤ (dsC _).length; omega) (dsC_whole _), trivial⟩, rfl, rfl, rfl⟩; exact (show _ = Value.tuple #[dgV x, slv 0 0 q c] by kernel_rfl); exact (rfl : _ = _ :: _))
              | ((with_reducible apply r_store); rfl; exact (rfl : _ = Value.pointer (some ⟨5, _, _⟩)); exact (rfl : _ = Value.agg _); exact (show _ = some (5, dgB x) by kernel_rfl); exact (show _ = [dsR ds, dgR old, fnR, dgB dz, dgB dz, dgB x] by kernel_rfl))
              | ((with_reducible apply r_makeInterface); rfl; rfl; exact (rfl : _ = Value.agg _); exact (rfl : _ = some (Value.iface _ _)))
              | ((with_reducible apply r_move); rfl; rfl; (first
              | exact (rfl : _ = Value.int _ _)
              | exact (rfl : _ = Value.bool _)
              | exact (rfl : _ = Value.slice _ _ _)
              | exact (rfl : _ = Value.tuple _)))
              | ((with_reducible apply r_assign); rfl; rfl; (exact (rfl : _ = Value.slice _ _ _)))
              | ((with_reducible apply r_bin); rfl; rfl; (exact (rfl : _ = Value.int _ _)); (exact (rfl : _ = Value.int _ _)); (first
              | with_reducible exact gtr_t (by omega)
              | with_reducible exact eql_t (by omega)))
              | ((with_reducible apply r_build); rfl; rfl; rfl; exact (rfl : _ = some (Value.agg _)))
              | ((with_reducible apply r_pick); rfl; rfl; (exact (rfl : _ = some (Value.bool _))))
              | ((with_reducible apply r_len); rfl; rfl; (exact (rfl : _ = Value.slice _ _ _)); (exact (rfl : _ = some (Value.int _ _))))
              | ((with_reducible apply r_extract); rfl; rfl; rfl; (first
              | exact (rfl : _ = some (Value.slice _ _ _))
              | exact (rfl : _ = some (Value.agg _))))
              | with_reducible refine r_doneN ?_
              | with_reducible refine c_reg ?_
              | with_reducible refine c_seq ?_
              | with_reducible refine c_skip ?_
              | with_reducible refine x_then ?_
              | ((with_reducible apply c_true); rfl)
              | ((with_reducible apply c_false); rfl))
            refine r_done ⟨p_panic rfl rfl, fun u v => ?_⟩
            repeat (first | with_reducible refine x_thenP ?_ | with_reducible refine x_blockP ?_ | with_reducible refine x_leaveP ?_)
            exact x_pan
        · have hS := Split_ok (G := G) (n : Int) (by omega)
          have hsz : splitF (n : Int) = (splitN n : Nat) := (splitF_pos (n := n) (by omega)).2.2
          rw [hsz] at hS
          obtain ⟨p1, p2⟩ := splitN_pos (n := n) (by omega)
          have w1 := bothF_lo kk old (m := m) (n := n) kn (ds := ds) (by omega) h1 (by omega)
          have w2 := bothF_hi kk old (m := m) (n := n) kn (ds := ds) (by omega) h1 (by omega)
          rw [hgd, htk] at w1 w2
          generalize ds.getD q d0 = x at *
          generalize splitN n = k at *
          by_cases hk : m ≤ k
          · rw [w1 hk, Option.map_eq_none_iff] at hw
            have hR := ih k p2 m kn (sub ds 0 q) q c (sub_len (by omega)) (by omega) (by omega) h1 hk (by omega) hw
            repeat (first
              | ((with_reducible apply c_regPn 5); exact (rfl : _ = some (⟨some 58, _, _, _, _, _⟩ : Oper)); exact (rfl : _ = [_, _, _, _, _]))
              | ((with_reducible apply r_alloc (nid := 3)); rfl; rfl; rfl; exact (show _ = [dsR ds, dgR old, fnR, dgB dz, hole, hole] by kernel_rfl))
              | ((with_reducible apply r_alloc (nid := 4)); rfl; rfl; rfl; exact (show _ = [dsR ds, dgR old, fnR, dgB dz, dgB dz, hole] by kernel_rfl))
              | ((with_reducible apply r_alloc (nid := 5)); rfl; rfl; rfl; exact (show _ = [dsR ds, dgR old, fnR, dgB dz, dgB dz, dgB dz] by kernel_rfl))
              | ((with_reducible apply r_callN (e := [some (0, 0)]) (nid := 0) hL); rfl; rfl; rfl; rfl; rfl; rfl; rfl; refine ⟨⟨⟨rfl, rfl, rfl, by omega, by omega⟩, trivial⟩, ⟨emb_ro rfl rfl (by show 0 + (dsC _).length ≤ (dsC _).length; omega) (dsC_whole _), trivial⟩, rfl, rfl, rfl⟩; exact (show _ = Value.tuple #[dgV x, slv 0 0 q c] by kernel_rfl); exact (rfl : _ = _ :: _))
              | ((with_reducible apply r_store); rfl; exact (rfl : _ = Value.pointer (some ⟨5, _, _⟩)); exact (rfl : _ = Value.agg _); exact (show _ = some (5, dgB x) by kernel_rfl); exact (show _ = [dsR ds, dgR old, fnR, dgB dz, dgB dz, dgB x] by kernel_rfl))
              | ((with_reducible apply r_load); rfl; rfl; exact (rfl : _ = Value.pointer (some ⟨2, _, _⟩)); exact (rfl : _ = some (Value.func _ _ _)))
              | ((with_reducible apply r_move); rfl; rfl; (first
              | exact (rfl : _ = Value.int _ _)
              | exact (rfl : _ = Value.bool _)
              | exact (rfl : _ = Value.slice _ _ _)
              | exact (rfl : _ = Value.tuple _)))
              | ((with_reducible apply r_assign); rfl; rfl; (first
              | exact (rfl : _ = Value.int _ _)
              | exact (rfl : _ = Value.slice _ _ _)))
              | ((with_reducible apply r_bin); rfl; rfl; (exact (rfl : _ = Value.int _ _)); (exact (rfl : _ = Value.int _ _)); (first
              | with_reducible exact leq_t (by omega)
              | with_reducible exact eql_f (by omega)))
              | ((with_reducible apply r_pick); rfl; rfl; (exact (rfl : _ = some (Value.bool _))))
              | ((with_reducible apply r_extract); rfl; rfl; rfl; (first
              | exact (rfl : _ = some (Value.slice _ _ _))
              | exact (rfl : _ = some (Value.agg _))))
              | ((with_reducible apply r_skip); rfl; rfl)
              | ((with_reducible apply r_callP (hS)); rfl; rfl; rfl; rfl; rfl; (exact (rfl : _ = Value.int _ _)))
              | with_reducible refine r_doneN ?_
              | with_reducible refine c_reg ?_
              | with_reducible refine c_seq ?_
              | with_reducible refine c_skip ?_
              | with_reducible refine x_then ?_
              | ((with_reducible apply c_true); rfl)
              | ((with_reducible apply c_false); rfl))
            refine r_done ⟨p_call (e := [some (0, 0), some (1, 0), some (2, 0)]) hR rfl rfl rfl rfl rfl rfl rfl rfl ⟨rfl, rfl, rfl, ⟨rfl, rfl, rfl, by omega, by omega⟩, ⟨rfl, rfl⟩, ⟨rfl, rfl⟩, trivial⟩ ⟨emb_sub rfl (.inl rfl) (by omega) rfl, emb_same rfl rfl rfl rfl, emb_same rfl rfl rfl (by kernel_rfl), trivial⟩, fun u v => ?_⟩
            repeat (first | with_reducible refine x_thenP ?_ | with_reducible refine x_blockP ?_ | with_reducible refine x_leaveP ?_)
            exact x_pan
          · rw [w2 (by omega), Option.map_eq_none_iff] at hw
            have hR := ih (n - k) (by omega) (m - k) false (sub ds 0 q) q c (sub_len (by omega)) (by omega) (by omega) (by omega) (by omega) (by omega) hw
            rw [show ((m - k : Nat) : Int) = (m : Int) - k from by omega, show ((n - k : Nat) : Int) = (n : Int) - k from by omega] at hR
            repeat (first
              | ((with_reducible apply c_regPn 8); exact (rfl : _ = some (⟨some 74, _, _, _, _, _⟩ : Oper)); exact (rfl : _ = [_, _, _, _, _, _, _, _]))
              | ((with_reducible apply r_alloc (nid := 3)); rfl; rfl; rfl; exact (show _ = [dsR ds, dgR old, fnR, dgB dz, hole, hole] by kernel_rfl))
              | ((with_reducible apply r_alloc (nid := 4)); rfl; rfl; rfl; exact (show _ = [dsR ds, dgR old, fnR, dgB dz, dgB dz, hole] by kernel_rfl))
              | ((with_reducible apply r_alloc (nid := 5)); rfl; rfl; rfl; exact (show _ = [dsR ds, dgR old, fnR, dgB dz, dgB dz, dgB dz] by kernel_rfl))
              | ((with_reducible apply r_callN (e := [some (0, 0)]) (nid := 0) hL); rfl; rfl; rfl; rfl; rfl; rfl; rfl; refine ⟨⟨⟨rfl, rfl, rfl, by omega, by omega⟩, trivial⟩, ⟨emb_ro rfl rfl (by show 0 + (dsC _).length ≤ (dsC _).length; omega) (dsC_whole _), trivial⟩, rfl, rfl, rfl⟩; exact (show _ = Value.tuple #[dgV x, slv 0 0 q c] by kernel_rfl); exact (rfl : _ = _ :: _))
              | ((with_reducible apply r_store); rfl; exact (rfl : _ = Value.pointer (some ⟨5, _, _⟩)); exact (rfl : _ = Value.agg _); exact (show _ = some (5, dgB x) by kernel_rfl); exact (show _ = [dsR ds, dgR old, fnR, dgB dz, dgB dz, dgB x] by kernel_rfl))
              | ((with_reducible apply r_load); rfl; rfl; exact (rfl : _ = Value.pointer (some ⟨2, _, _⟩)); exact (rfl : _ = some (Value.func _ _ _)))
              | ((with_reducible apply r_move); rfl; rfl; (first
              | exact (rfl : _ = Value.int _ _)
              | exact (rfl : _ = Value.bool _)
              | exact (rfl : _ = Value.slice _ _ _)
              | exact (rfl : _ = Value.tuple _)))
              | ((with_reducible apply r_assign); rfl; rfl; (first
              | exact (rfl : _ = Value.int _ _)
              | exact (rfl : _ = Value.slice _ _ _)))
              | ((with_reducible apply r_bin); rfl; rfl; (exact (rfl : _ = Value.int _ _)); (exact (rfl : _ = Value.int _ _)); (first
              | with_reducible exact leq_f (by omega)
              | with_reducible exact eql_f (by omega)
              | with_reducible exact bin_sub rfl (by omega) (by omega)))
              | ((with_reducible apply r_pick); rfl; rfl; (exact (rfl : _ = some (Value.bool _))))
              | ((with_reducible apply r_extract); rfl; rfl; rfl; (first
              | exact (rfl : _ = some (Value.slice _ _ _))
              | exact (rfl : _ = some (Value.agg _))))
              | ((with_reducible apply r_skip); rfl; rfl)
              | ((with_reducible apply r_callP (hS)); rfl; rfl; rfl; rfl; rfl; (exact (rfl : _ = Value.int _ _)))
              | with_reducible refine r_doneN ?_
              | with_reducible refine c_reg ?_
              | with_reducible refine c_seq ?_
              | with_reducible refine c_skip ?_
              | with_reducible refine x_then ?_
              | ((with_reducible apply c_false); rfl))
            refine r_done ⟨p_call (e := [some (0, 0), some (1, 0), some (2, 0)]) hR rfl rfl rfl rfl rfl rfl rfl rfl ⟨rfl, rfl, rfl, ⟨rfl, rfl, rfl, by omega, by omega⟩, ⟨rfl, rfl⟩, ⟨rfl, rfl⟩, trivial⟩ ⟨emb_sub rfl (.inl rfl) (by omega) rfl, emb_same rfl rfl rfl rfl, emb_same rfl rfl rfl (by kernel_rfl), trivial⟩, fun u v => ?_⟩
            repeat (first | with_reducible refine x_thenP ?_ | with_reducible refine x_blockP ?_ | with_reducible refine x_leaveP ?_)
            exact x_pan
end Go.Flat
