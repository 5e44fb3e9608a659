/- Walks and plain laws: what each theorem says, within the bounds that it names. -/
import Derived.Test.YtgmnjggeffdjhaaDoorK7
set_option linter.unusedVariables false
set_option linter.unusedSimpArgs false
set_option maxRecDepth 20000
namespace Go.Flat
open Go.Proofs
variable {G : Glob}
def bothF (kk : Nat → BitVec 32) (old : D) (m n : Nat) (kn : Bool) (ds : List D) : Option (D × D) :=
  if m = n ∧ kn = true then (if ds.length = 0 then some (old, old) else none)
  else if ds.length = 0 then none
  else if m = n then (if ds.length = 1 then some (ds.getD (ds.length - 1) d0, ds.getD (ds.length - 1) d0) else none)
  else if h : n ≤ 1 then none
  else if m ≤ splitN n then (bothF kk old m (splitN n) kn (ds.take (ds.length - 1))).map fun p => (p.1, knotF kk p.2 (ds.getD (ds.length - 1) d0))
  else (bothF kk old (m - splitN n) (n - splitN n) false (ds.take (ds.length - 1))).map fun p => (knotF kk (ds.getD (ds.length - 1) d0) p.1, knotF kk (ds.getD (ds.length - 1) d0) p.2)
termination_by n
decreasing_by
  · exact (splitN_pos (n := n) (by omega)).2
  · have := splitN_pos (n := n) (by omega); omega
def dgR (d : D) : Blk := { cells := rowE w8 32 d, sz := 32, wr := false, fix := true, mv := false, pur := true }
def fnR : Blk := { cells := [.func (.func 54) #[] #[pt 1 0, pt 2 0]], sz := 1, wr := false, fix := true, mv := false, pur := false }
theorem bothF_self (kk : Nat → BitVec 32) (old : D) (n : Nat) (ds : List D) : bothF kk old n n true ds = if ds.length = 0 then some (old, old) else none := by
  rw [bothF, if_pos ⟨rfl, rfl⟩]
theorem bothF_nil (kk : Nat → BitVec 32) (old : D) (m n : Nat) (kn : Bool) {ds : List D} (h : ¬ (m = n ∧ kn = true)) (h0 : ds.length = 0) : bothF kk old m n kn ds = none := by
  rw [bothF, if_neg h, if_pos h0]
theorem bothF_end (kk : Nat → BitVec 32) (old : D) (n : Nat) {ds : List D} (h0 : ds.length ≠ 0) : bothF kk old n n false ds = if ds.length = 1 then some (ds.getD (ds.length - 1) d0, ds.getD (ds.length - 1) d0) else none := by
  rw [bothF, if_neg (by simp), if_neg h0, if_pos rfl]
theorem bothF_lo (kk : Nat → BitVec 32) (old : D) {m n : Nat} (kn : Bool) {ds : List D} (hm : m < n) (h1 : 1 ≤ m) (h0 : ds.length ≠ 0) (hk : m ≤ splitN n) : bothF kk old m n kn ds = (bothF kk old m (splitN n) kn (ds.take (ds.length - 1))).map fun p => (p.1, knotF kk p.2 (ds.getD (ds.length - 1) d0)) := by
  rw [bothF, if_neg (by omega), if_neg h0, if_neg (by omega), dif_neg (by omega), if_pos hk]
theorem bothF_hi (kk : Nat → BitVec 32) (old : D) {m n : Nat} (kn : Bool) {ds : List D} (hm : m < n) (h1 : 1 ≤ m) (h0 : ds.length ≠ 0) (hk : splitN n < m) : bothF kk old m n kn ds = (bothF kk old (m - splitN n) (n - splitN n) false (ds.take (ds.length - 1))).map fun p => (knotF kk (ds.getD (ds.length - 1) d0) p.1, knotF kk (ds.getD (ds.length - 1) d0) p.2) := by
  rw [bothF, if_neg (by omega), if_neg h0, if_neg (by omega), dif_neg (by omega), if_neg (by omega)]
set_option maxRecDepth 20000 in
set_option maxHeartbeats 8000000 in
theorem both_ok (kk : Nat → BitVec 32) (hG : G 1 = some (rowE w32 64 kk)) (old : D) : ∀ (n m : Nat) (kn : Bool) (ds : List D) (q c : Nat) (a b : D), ds.length = q → q ≤ 1000 → q ≤ c → 1 ≤ m → m ≤ n → n ≤ 1000000 → bothF kk old m n kn ds = some (a, b) →
    CallL Tryd.prog G 54 [.int .i64 (m : Nat), .int .i64 (n : Nat), .bool kn, slv 0 0 q c, pt 1 0, pt 2 0] [dsR ds, dgR old, fnR] (.tuple #[dgV a, dgV b]) [dsR ds, dgR old, fnR] := by
  intro n
  induction n using Nat.strongRecOn with
  | ind n ih =>
    intro m kn ds q c a b hq hb hc h1 hmn hn hw
    refine walk (fn := Tryd.f54) (nt := 83) rfl rfl rfl rfl ?_
    refine c_hole 5 (H' := [dsR ds, dgR old, fnR, hole, hole, hole, hole, hole]) rfl ?_
    have hend : (([dsR ds, dgR old, fnR] : List Blk).all (keptB ([dsR ds, dgR old, fnR] : List Blk).length)) = true := by simp [keptB, dsR, dgR, fnR]; rfl
    by_cases hself : m = n ∧ kn = true
    · obtain ⟨rfl, rfl⟩ := hself
      rw [bothF_self] at hw
      split at hw
      · rename_i h0
        injection hw with hw
        obtain ⟨rfl, rfl⟩ := Prod.mk.inj hw
        have hq0 : q = 0 := by omega
        subst hq0
        repeat (first
          | ((with_reducible apply r_load); rfl; rfl; exact (rfl : _ = Value.pointer (some ⟨1, _, _⟩)); exact (show _ = some (dgV old) by kernel_rfl))
          | ((with_reducible apply r_alloc (nid := 3)); rfl; rfl; rfl; exact (show _ = [dsR ds, dgR old, fnR, dgB dz, hole, hole, hole, hole] by kernel_rfl))
          | ((with_reducible apply r_alloc (nid := 4)); rfl; rfl; rfl; exact (show _ = [dsR ds, dgR old, fnR, dgB dz, dgB dz, hole, hole, hole] by kernel_rfl))
          | ((with_reducible apply r_move); rfl; rfl; (first
          | exact (rfl : _ = Value.int _ _)
          | exact (rfl : _ = Value.bool _)
          | exact (rfl : _ = Value.slice _ _ _)))
          | ((with_reducible apply r_bin); rfl; rfl; (exact (rfl : _ = Value.int _ _)); (exact (rfl : _ = Value.int _ _)); (first
          | with_reducible exact gtr_f (by omega)
          | with_reducible exact eql_t (by omega)))
          | ((with_reducible apply r_pick); rfl; rfl; (exact (rfl : _ = some (Value.bool _))))
          | ((with_reducible apply r_len); rfl; rfl; (exact (rfl : _ = Value.slice _ _ _)); (exact (rfl : _ = some (Value.int _ _))))
          | ((with_reducible apply r_store); rfl; exact (rfl : _ = Value.pointer (some ⟨_, _, _⟩)); (exact (rfl : _ = Value.agg _)); (rfl); exact (rfl : _ = _ :: _))
          | with_reducible refine r_doneN ?_
          | with_reducible refine c_reg ?_
          | with_reducible refine c_seq ?_
          | with_reducible refine c_skip ?_
          | with_reducible refine c_ret ?_
          | with_reducible refine x_then ?_
          | with_reducible refine x_thenR ?_
          | (with_reducible refine r_doneD (by kernel_rfl) ?_)
          | (with_reducible refine c_draw (by kernel_rfl) ?_)
          | ((with_reducible apply c_true); rfl)
          | ((with_reducible apply c_false); rfl))
        refine x_end ?_
        exact end_same (v := .tuple #[dgV old, dgV old]) (by kernel_rfl) rfl rfl hend ⟨argV_pure (pure_row fun _ => rfl) rfl, argV_pure (pure_row fun _ => rfl) rfl, trivial⟩
      · cases hw
    · have h0 : q ≠ 0 := by
        intro h0
        rw [bothF_nil kk old m n kn hself (by omega)] at hw
        cases hw
      obtain ⟨q, rfl⟩ : ∃ p, q = p + 1 := ⟨q - 1, by omega⟩
      have hL := last_ok (G := G) ds q c hq (by omega) hc
      have hgd : ds.getD (ds.length - 1) d0 = ds.getD q d0 := by rw [hq]; rfl
      have htk : ds.take (ds.length - 1) = sub ds 0 q := by rw [hq]; simp [sub]
      by_cases he : m = n
      · subst he
        have hkn : kn = false := by cases kn <;> simp_all
        subst hkn
        rw [bothF_end kk old m (by omega)] at hw
        split at hw
        · rename_i hq1
          injection hw with hw
          obtain ⟨rfl, rfl⟩ := Prod.mk.inj hw
          rw [hgd]
          have hq0 : q = 0 := by omega
          subst hq0
          generalize ds.getD 0 d0 = x at *
          repeat (first
            | ((with_reducible apply r_alloc (nid := 3)); rfl; rfl; rfl; exact (show _ = [dsR ds, dgR old, fnR, dgB dz, hole, hole, hole, hole] by kernel_rfl))
            | ((with_reducible apply r_alloc (nid := 4)); rfl; rfl; rfl; exact (show _ = [dsR ds, dgR old, fnR, dgB dz, dgB dz, hole, hole, hole] by kernel_rfl))
            | ((with_reducible apply r_alloc (nid := 5)); rfl; rfl; rfl; exact (show _ = [dsR ds, dgR old, fnR, dgB dz, dgB dz, dgB dz, hole, hole] by kernel_rfl))
            | ((with_reducible apply r_callN (e := [some (0, 0)]) (nid := 0) hL); rfl; rfl; rfl; rfl; rfl; rfl; rfl; refine ⟨⟨⟨rfl, rfl, rfl, by omega, by omega⟩, trivial⟩, ⟨emb_ro rfl rfl (by show 0 + (dsC _).length ≤ (dsC _).length; omega) (dsC_whole _), trivial⟩, rfl, rfl, rfl⟩; exact (show _ = Value.tuple #[dgV x, slv 0 0 0 c] by kernel_rfl); exact (rfl : _ = _ :: _))
            | ((with_reducible apply r_store); rfl; exact (rfl : _ = Value.pointer (some ⟨5, _, _⟩)); exact (rfl : _ = Value.agg _); exact (show _ = some (5, dgB x) by kernel_rfl); exact (show _ = [dsR ds, dgR old, fnR, dgB dz, dgB dz, dgB x, hole, hole] by kernel_rfl))
            | ((with_reducible apply r_load); rfl; rfl; exact (rfl : _ = Value.pointer (some ⟨5, _, _⟩)); exact (show _ = some (dgV x) by kernel_rfl))
            | ((with_reducible apply r_move); rfl; rfl; (first
            | exact (rfl : _ = Value.int _ _)
            | exact (rfl : _ = Value.bool _)
            | exact (rfl : _ = Value.slice _ _ _)
            | exact (rfl : _ = Value.tuple _)))
            | ((with_reducible apply r_assign); rfl; rfl; (exact (rfl : _ = Value.slice _ _ _)))
            | ((with_reducible apply r_bin); rfl; rfl; (exact (rfl : _ = Value.int _ _)); (exact (rfl : _ = Value.int _ _)); (first
            | with_reducible exact gtr_f (by omega)
            | with_reducible exact eql_t (by omega)))
            | ((with_reducible apply r_pick); rfl; rfl; (exact (rfl : _ = some (Value.bool _))))
            | ((with_reducible apply r_len); rfl; rfl; (exact (rfl : _ = Value.slice _ _ _)); (exact (rfl : _ = some (Value.int _ _))))
            | ((with_reducible apply r_extract); rfl; rfl; rfl; (first
            | exact (rfl : _ = some (Value.slice _ _ _))
            | exact (rfl : _ = some (Value.agg _))))
            | ((with_reducible apply r_store); rfl; exact (rfl : _ = Value.pointer (some ⟨_, _, _⟩)); (exact (rfl : _ = Value.agg _)); (rfl); exact (rfl : _ = _ :: _))
            | with_reducible refine r_doneN ?_
            | with_reducible refine c_reg ?_
            | with_reducible refine c_seq ?_
            | with_reducible refine c_skip ?_
            | with_reducible refine c_ret ?_
            | with_reducible refine x_then ?_
            | with_reducible refine x_thenR ?_
            | (with_reducible refine r_doneD (by kernel_rfl) ?_)
            | (with_reducible refine c_draw (by kernel_rfl) ?_)
            | ((with_reducible apply c_true); rfl)
            | ((with_reducible apply c_false); rfl))
          refine x_end ?_
          exact end_same (v := .tuple #[dgV x, dgV x]) (by kernel_rfl) rfl rfl hend ⟨argV_pure (pure_row fun _ => rfl) rfl, argV_pure (pure_row fun _ => rfl) rfl, trivial⟩
        · cases hw
      · have hS := Split_ok (G := G) (n : Int) (by omega)
        have hsz : splitF (n : Int) = (splitN n : Nat) := (splitF_pos (n := n) (by omega)).2.2
        rw [hsz] at hS
        obtain ⟨p1, p2⟩ := splitN_pos (n := n) (by omega)
        have w1 := bothF_lo kk old (m := m) (n := n) kn (ds := ds) (by omega) h1 (by omega)
        have w2 := bothF_hi kk old (m := m) (n := n) kn (ds := ds) (by omega) h1 (by omega)
        rw [hgd, htk] at w1 w2
        generalize ds.getD q d0 = x at *
        generalize splitN n = k at *
        by_cases hk : m ≤ k
        · rw [w1 hk] at hw
          obtain ⟨⟨a', b'⟩, e1, e2⟩ := Option.map_eq_some_iff.1 hw
          obtain ⟨rfl, rfl⟩ := Prod.mk.inj e2
          have hR := ih k p2 m kn (sub ds 0 q) q c a' b' (sub_len (by omega)) (by omega) (by omega) h1 hk (by omega) e1
          have hK := Knot_ok (G := G) kk hG b' x
          dsimp only
          generalize knotF kk b' x = y at *
          repeat (first
            | ((with_reducible apply r_alloc (nid := 3)); rfl; rfl; rfl; exact (show _ = [dsR ds, dgR old, fnR, dgB dz, hole, hole, hole, hole] by kernel_rfl))
            | ((with_reducible apply r_alloc (nid := 4)); rfl; rfl; rfl; exact (show _ = [dsR ds, dgR old, fnR, dgB dz, dgB dz, hole, hole, hole] by kernel_rfl))
            | ((with_reducible apply r_alloc (nid := 5)); rfl; rfl; rfl; exact (show _ = [dsR ds, dgR old, fnR, dgB dz, dgB dz, dgB dz, hole, hole] by kernel_rfl))
            | ((with_reducible apply r_callN (e := [some (0, 0)]) (nid := 0) hL); rfl; rfl; rfl; rfl; rfl; rfl; rfl; refine ⟨⟨⟨rfl, rfl, rfl, by omega, by omega⟩, trivial⟩, ⟨emb_ro rfl rfl (by show 0 + (dsC _).length ≤ (dsC _).length; omega) (dsC_whole _), trivial⟩, rfl, rfl, rfl⟩; exact (show _ = Value.tuple #[dgV x, slv 0 0 q c] by kernel_rfl); exact (rfl : _ = _ :: _))
            | ((with_reducible apply r_store); rfl; exact (rfl : _ = Value.pointer (some ⟨5, _, _⟩)); exact (rfl : _ = Value.agg _); exact (show _ = some (5, dgB x) by kernel_rfl); exact (show _ = [dsR ds, dgR old, fnR, dgB dz, dgB dz, dgB x, hole, hole] by kernel_rfl))
            | ((with_reducible apply r_callN (e := [some (0, 0), some (1, 0), some (2, 0)]) (nid := 0) hR); rfl; rfl; rfl; rfl; rfl; rfl; rfl; refine ⟨⟨rfl, rfl, rfl, ⟨rfl, rfl, rfl, by omega, by omega⟩, ⟨rfl, rfl⟩, ⟨rfl, rfl⟩, trivial⟩, ⟨emb_sub rfl (.inl rfl) (by omega) rfl, emb_same rfl rfl rfl rfl, emb_same rfl rfl rfl (by kernel_rfl), trivial⟩, rfl, rfl, rfl⟩; exact (show _ = Value.tuple #[dgV a', dgV b'] by kernel_rfl); exact (rfl : _ = _ :: _))
            | ((with_reducible apply r_alloc (nid := 6)); rfl; rfl; rfl; exact (show _ = [dsR ds, dgR old, fnR, dgB dz, dgB dz, dgB x, dgB dz, hole] by kernel_rfl))
            | ((with_reducible apply r_alloc (nid := 7)); rfl; rfl; rfl; exact (show _ = [dsR ds, dgR old, fnR, dgB dz, dgB dz, dgB x, dgB dz, dgB dz] by kernel_rfl))
            | ((with_reducible apply r_store); rfl; exact (rfl : _ = Value.pointer (some ⟨6, _, _⟩)); exact (rfl : _ = Value.agg _); exact (show _ = some (6, dgB a') by kernel_rfl); exact (show _ = [dsR ds, dgR old, fnR, dgB dz, dgB dz, dgB x, dgB a', dgB dz] by kernel_rfl))
            | ((with_reducible apply r_store); rfl; exact (rfl : _ = Value.pointer (some ⟨7, _, _⟩)); exact (rfl : _ = Value.agg _); exact (show _ = some (7, dgB b') by kernel_rfl); exact (show _ = [dsR ds, dgR old, fnR, dgB dz, dgB dz, dgB x, dgB a', dgB b'] by kernel_rfl))
            | ((with_reducible apply r_load); rfl; rfl; exact (rfl : _ = Value.pointer (some ⟨5, _, _⟩)); exact (show _ = some (dgV x) by kernel_rfl))
            | ((with_reducible apply r_load); rfl; rfl; exact (rfl : _ = Value.pointer (some ⟨6, _, _⟩)); exact (show _ = some (dgV a') by kernel_rfl))
            | ((with_reducible apply r_load); rfl; rfl; exact (rfl : _ = Value.pointer (some ⟨7, _, _⟩)); exact (show _ = some (dgV b') by kernel_rfl))
            | ((with_reducible apply r_move); rfl; rfl; (first
            | exact (rfl : _ = Value.int _ _)
            | exact (rfl : _ = Value.bool _)
            | exact (rfl : _ = Value.slice _ _ _)
            | exact (rfl : _ = Value.tuple _)))
            | ((with_reducible apply r_assign); rfl; rfl; (first
            | exact (rfl : _ = Value.int _ _)
            | exact (rfl : _ = Value.slice _ _ _)))
            | ((with_reducible apply r_bin); rfl; rfl; (exact (rfl : _ = Value.int _ _)); (exact (rfl : _ = Value.int _ _)); (first
            | with_reducible exact leq_t (by omega)
            | with_reducible exact eql_f (by omega)))
            | ((with_reducible apply r_pick); rfl; rfl; (exact (rfl : _ = some (Value.bool _))))
            | ((with_reducible apply r_load); rfl; rfl; exact (rfl : _ = Value.pointer (some ⟨_, _, _⟩)); (exact (rfl : _ = some (Value.func _ _ _))))
            | ((with_reducible apply r_extract); rfl; rfl; rfl; (first
            | exact (rfl : _ = some (Value.slice _ _ _))
            | exact (rfl : _ = some (Value.agg _))))
            | ((with_reducible apply r_store); rfl; exact (rfl : _ = Value.pointer (some ⟨_, _, _⟩)); (exact (rfl : _ = Value.agg _)); (rfl); exact (rfl : _ = _ :: _))
            | ((with_reducible apply r_skip); rfl; rfl)
            | ((with_reducible apply r_callP (hS)); rfl; rfl; rfl; rfl; rfl; (exact (rfl : _ = Value.int _ _)))
            | ((with_reducible apply r_callP (hK)); rfl; rfl; rfl; rfl; rfl; (exact (rfl : _ = Value.agg _)))
            | with_reducible refine r_doneN ?_
            | with_reducible refine c_reg ?_
            | with_reducible refine c_seq ?_
            | with_reducible refine c_skip ?_
            | with_reducible refine c_ret ?_
            | with_reducible refine x_then ?_
            | with_reducible refine x_thenR ?_
            | (with_reducible refine r_doneD (by kernel_rfl) ?_)
            | (with_reducible refine c_draw (by kernel_rfl) ?_)
            | ((with_reducible apply c_true); rfl)
            | ((with_reducible apply c_false); rfl))
          refine x_end ?_
          exact end_same (v := .tuple #[dgV a', dgV y]) (by kernel_rfl) rfl rfl hend ⟨argV_pure (pure_row fun _ => rfl) rfl, argV_pure (pure_row fun _ => rfl) rfl, trivial⟩
        · rw [w2 (by omega)] at hw
          obtain ⟨⟨a', b'⟩, e1, e2⟩ := Option.map_eq_some_iff.1 hw
          obtain ⟨rfl, rfl⟩ := Prod.mk.inj e2
          have hR := ih (n - k) (by omega) (m - k) false (sub ds 0 q) q c a' b' (sub_len (by omega)) (by omega) (by omega) (by omega) (by omega) (by omega) e1
          rw [show ((m - k : Nat) : Int) = (m : Int) - k from by omega, show ((n - k : Nat) : Int) = (n : Int) - k from by omega] at hR
          have hK := Knot_ok (G := G) kk hG x a'
          have hK2 := Knot_ok (G := G) kk hG x b'
          dsimp only
          generalize knotF kk x a' = y at *
          generalize knotF kk x b' = z at *
          repeat (first
            | ((with_reducible apply r_alloc (nid := 3)); rfl; rfl; rfl; exact (show _ = [dsR ds, dgR old, fnR, dgB dz, hole, hole, hole, hole] by kernel_rfl))
            | ((with_reducible apply r_alloc (nid := 4)); rfl; rfl; rfl; exact (show _ = [dsR ds, dgR old, fnR, dgB dz, dgB dz, hole, hole, hole] by kernel_rfl))
            | ((with_reducible apply r_alloc (nid := 5)); rfl; rfl; rfl; exact (show _ = [dsR ds, dgR old, fnR, dgB dz, dgB dz, dgB dz, hole, hole] by kernel_rfl))
            | ((with_reducible apply r_callN (e := [some (0, 0)]) (nid := 0) hL); rfl; rfl; rfl; rfl; rfl; rfl; rfl; refine ⟨⟨⟨rfl, rfl, rfl, by omega, by omega⟩, trivial⟩, ⟨emb_ro rfl rfl (by show 0 + (dsC _).length ≤ (dsC _).length; omega) (dsC_whole _), trivial⟩, rfl, rfl, rfl⟩; exact (show _ = Value.tuple #[dgV x, slv 0 0 q c] by kernel_rfl); exact (rfl : _ = _ :: _))
            | ((with_reducible apply r_store); rfl; exact (rfl : _ = Value.pointer (some ⟨5, _, _⟩)); exact (rfl : _ = Value.agg _); exact (show _ = some (5, dgB x) by kernel_rfl); exact (show _ = [dsR ds, dgR old, fnR, dgB dz, dgB dz, dgB x, hole, hole] by kernel_rfl))
            | ((with_reducible apply r_callN (e := [some (0, 0), some (1, 0), some (2, 0)]) (nid := 0) hR); rfl; rfl; rfl; rfl; rfl; rfl; rfl; refine ⟨⟨rfl, rfl, rfl, ⟨rfl, rfl, rfl, by omega, by omega⟩, ⟨rfl, rfl⟩, ⟨rfl, rfl⟩, trivial⟩, ⟨emb_sub rfl (.inl rfl) (by omega) rfl, emb_same rfl rfl rfl rfl, emb_same rfl rfl rfl (by kernel_rfl), trivial⟩, rfl, rfl, rfl⟩; exact (show _ = Value.tuple #[dgV a', dgV b'] by kernel_rfl); exact (rfl : _ = _ :: _))
            | ((with_reducible apply r_alloc (nid := 6)); rfl; rfl; rfl; exact (show _ = [dsR ds, dgR old, fnR, dgB dz, dgB dz, dgB x, dgB dz, hole] by kernel_rfl))
            | ((with_reducible apply r_alloc (nid := 7)); rfl; rfl; rfl; exact (show _ = [dsR ds, dgR old, fnR, dgB dz, dgB dz, dgB x, dgB dz, dgB dz] by kernel_rfl))
            | ((with_reducible apply r_store); rfl; exact (rfl : _ = Value.pointer (some ⟨6, _, _⟩)); exact (rfl : _ = Value.agg _); exact (show _ = some (6, dgB a') by kernel_rfl); exact (show _ = [dsR ds, dgR old, fnR, dgB dz, dgB dz, dgB x, dgB a', dgB dz] by kernel_rfl))
            | ((with_reducible apply r_store); rfl; exact (rfl : _ = Value.pointer (some ⟨7, _, _⟩)); exact (rfl : _ = Value.agg _); exact (show _ = some (7, dgB b') by kernel_rfl); exact (show _ = [dsR ds, dgR old, fnR, dgB dz, dgB dz, dgB x, dgB a', dgB b'] by kernel_rfl))
            | ((with_reducible apply r_load); rfl; rfl; exact (rfl : _ = Value.pointer (some ⟨5, _, _⟩)); exact (show _ = some (dgV x) by kernel_rfl))
            | ((with_reducible apply r_load); rfl; rfl; exact (rfl : _ = Value.pointer (some ⟨6, _, _⟩)); exact (show _ = some (dgV a') by kernel_rfl))
            | ((with_reducible apply r_load); rfl; rfl; exact (rfl : _ = Value.pointer (some ⟨7, _, _⟩)); exact (show _ = some (dgV b') by kernel_rfl))
            | ((with_reducible apply r_move); rfl; rfl; (first
            | exact (rfl : _ = Value.int _ _)
            | exact (rfl : _ = Value.bool _)
            | exact (rfl : _ = Value.slice _ _ _)
            | exact (rfl : _ = Value.tuple _)))
            | ((with_reducible apply r_assign); rfl; rfl; (first
            | exact (rfl : _ = Value.int _ _)
            | exact (rfl : _ = Value.slice _ _ _)))
            | ((with_reducible apply r_bin); rfl; rfl; (exact (rfl : _ = Value.int _ _)); (exact (rfl : _ = Value.int _ _)); (first
            | with_reducible exact leq_f (by omega)
            | with_reducible exact eql_f (by omega)
            | with_reducible exact bin_sub rfl (by omega) (by omega)))
            | ((with_reducible apply r_pick); rfl; rfl; (exact (rfl : _ = some (Value.bool _))))
            | ((with_reducible apply r_load); rfl; rfl; exact (rfl : _ = Value.pointer (some ⟨_, _, _⟩)); (exact (rfl : _ = some (Value.func _ _ _))))
            | ((with_reducible apply r_extract); rfl; rfl; rfl; (first
            | exact (rfl : _ = some (Value.slice _ _ _))
            | exact (rfl : _ = some (Value.agg _))))
            | ((with_reducible apply r_store); rfl; exact (rfl : _ = Value.pointer (some ⟨_, _, _⟩)); (exact (rfl : _ = Value.agg _)); (rfl); exact (rfl : _ = _ :: _))
            | ((with_reducible apply r_skip); rfl; rfl)
            | ((with_reducible apply r_callP (hS)); rfl; rfl; rfl; rfl; rfl; (exact (rfl : _ = Value.int _ _)))
            | ((with_reducible apply r_callP (hK)); rfl; rfl; rfl; rfl; rfl; (exact (rfl : _ = Value.agg _)))
            | ((with_reducible apply r_callP (hK2)); rfl; rfl; rfl; rfl; rfl; (exact (rfl : _ = Value.agg _)))
            | with_reducible refine r_doneN ?_
            | with_reducible refine c_reg ?_
            | with_reducible refine c_seq ?_
            | with_reducible refine c_skip ?_
            | with_reducible refine c_ret ?_
            | with_reducible refine x_then ?_
            | (with_reducible refine r_doneD (by kernel_rfl) ?_)
            | (with_reducible refine c_draw (by kernel_rfl) ?_)
            | ((with_reducible apply c_false); rfl))
          refine x_end ?_
          exact end_same (v := .tuple #[dgV y, dgV z]) (by kernel_rfl) rfl rfl hend ⟨argV_pure (pure_row fun _ => rfl) rfl, argV_pure (pure_row fun _ => rfl) rfl, trivial⟩
end Go.Flat
