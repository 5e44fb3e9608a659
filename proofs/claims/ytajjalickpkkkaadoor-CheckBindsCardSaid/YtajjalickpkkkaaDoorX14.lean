/- Walks and plain laws: what each theorem says, within the bounds that it names. -/
import Derived.Test.YtajjalickpkkkaaDoorX13
set_option linter.unusedVariables false
set_option linter.unusedSimpArgs false
namespace Go.Flat
open Go.Proofs
variable {G : Glob}
/-- The reference's answer is the program's. -/
theorem refIncl_eq (kk : Nat → BitVec 32) (root : D) (size index : Int) (leaf : D) (ds : List D) (n : Nat) (hn : ds.length = n) : refInclE kk root size index leaf ds n = inclE kk root leaf size index ds := by
  unfold refInclE inclE
  by_cases hbad : size < 1 ∨ 100000 < size ∨ index < 0 ∨ size ≤ index
  · rw [if_pos hbad]
    by_cases h1 : size < 1
    · rw [if_pos h1]
    · rw [if_neg h1]
      by_cases h2 : 100000 < size
      · rw [if_pos h2]
      · rw [if_neg h2]
        by_cases h3 : index < 0
        · rw [if_pos h3]
        · rw [if_neg h3, if_pos (by omega)]
  · rw [if_neg hbad, if_neg (by omega), if_neg (by omega), if_neg (by omega), if_neg (by omega)]
    obtain ⟨e1, e2⟩ := makes_way kk leaf size.toNat size.toNat index.toNat ds (Nat.le_refl _) (by omega)
    cases hw : wayF size.toNat index.toNat ds with
    | none =>
      dsimp only
      rw [e2 hw]
      split <;> rfl
    | some l =>
      dsimp only
      have hl := wayF_len 17 size.toNat index.toNat ds l (by omega) hw
      rw [if_neg (by omega), e1 l hw, if_pos rfl]
theorem refIncluded_ok' (kk : Nat → BitVec 32) (hG0 : G 0 = some (rowE w32 64 kk)) (root : D) (size index : Int) (leaf : D) (ds : List D) (n c : Nat) (hn : ds.length = n) (hb : n ≤ 1000) (hc : n ≤ c) : CallL Tryd.prog G 13 [dgV root, .int .i64 size, .int .i64 index, dgV leaf, slv 0 0 n c] [dsR ds] (.int .i64 (inclE kk root leaf size index ds)) [dsR ds] :=
  refIncl_eq kk root size index leaf ds n hn ▸ refIncluded_ok (G := G) kk hG0 root size index leaf ds n c hn hb hc
theorem sub_eqt (ds : List D) (m : Nat) : sub ds 0 m = ds.take m := by simp [sub]
theorem sub_allm {ds : List D} {m : Nat} (h : ds.length = m) : sub ds 0 m = ds := by rw [sub_eqt, ← h, List.take_length]
theorem sub_init {ds : List D} {m : Nat} (h : m ≤ ds.length) (h0 : 1 ≤ m) : (sub ds 0 m).length = m ∧ (sub ds 0 m).take ((sub ds 0 m).length - 1) = sub ds 0 (m - 1) ∧ sub (sub ds 0 m) 0 (m - 1) = sub ds 0 (m - 1) := by
  have hl : (sub ds 0 m).length = m := sub_len (by omega)
  refine ⟨hl, ?_, ?_⟩
  · rw [hl, sub_eqt, sub_eqt, List.take_take, Nat.min_eq_left (by omega)]
  · rw [sub_eqt, sub_eqt, sub_eqt, List.take_take, Nat.min_eq_left (by omega)]
def cInv (kk : Nat → BitVec 32) (a b : D) (p q : List D) (sz ix np nq : Nat) (R : Option (ByteArray × ByteArray)) : Prop :=
  np ≤ p.length ∧ nq ≤ q.length ∧ ix < sz ∧ ∃ la lb, wayF sz ix (sub p 0 np) = some la ∧ wayF sz ix (sub q 0 nq) = some lb ∧ clashT (knT kk a la) (knT kk b lb) = R
theorem clash_begin {kk : Nat → BitVec 32} {root a b : D} {p q : List D} {sz ix m n : Nat} (hm : p.length = m) (hn : q.length = n) (hs : sameB 32 a b = false) (h1 : inclE kk root a sz ix p = 0) (h2 : inclE kk root b sz ix q = 0) :
    1 ≤ sz ∧ (sz ≤ 100000 ∧ ix < sz) ∧ cInv kk a b p q sz ix m n (clashE kk root sz ix a p b q) := by
  have hE : clashE kk root sz ix a p b q = (match wayF sz ix p, wayF sz ix q with
    | some la, some lb => clashT (knT kk a la) (knT kk b lb)
    | _, _ => none) := by
    unfold clashE; rw [if_neg (by rw [hs, h1, h2]; simp)]; rfl
  obtain ⟨sz1, ix1, la, e1, e2, g1, g2, g3, hwa, hra⟩ := inclE_zero h1
  obtain ⟨sz2, ix2, lb, e3, e4, g4, g5, g6, hwb, hrb⟩ := inclE_zero h2
  obtain rfl : sz = sz1 := by omega
  obtain rfl : ix = ix1 := by omega
  obtain rfl : sz = sz2 := by omega
  obtain rfl : ix = ix2 := by omega
  rw [hwa, hwb] at hE
  exact ⟨g1, ⟨g2, g3⟩, by omega, by omega, g3, la, lb, by rw [sub_allm hm]; exact hwa, by rw [sub_allm hn]; exact hwb, hE.symm⟩
theorem pair_way (kk : Nat → BitVec 32) (a : D) {p : List D} {sz ix np : Nat} {la : List Stp} (hp : np ≤ p.length) (h2 : 2 ≤ sz) (hi : ix < sz) (hw : wayF sz ix (sub p 0 np) = some la) :
    1 ≤ np ∧ 1 ≤ (pairF kk sz ix a (sub p 0 np) np).2.1 ∧ (pairF kk sz ix a (sub p 0 np) np).2.1 < sz ∧ (pairF kk sz ix a (sub p 0 np) np).2.2 < (pairF kk sz ix a (sub p 0 np) np).2.1 ∧
    (pairF kk sz ix a (sub p 0 np) np).2 = (if ix < splitN sz then (splitN sz, ix) else (sz - splitN sz, ix - splitN sz)) ∧
    ∃ t, wayF (pairF kk sz ix a (sub p 0 np) np).2.1 (pairF kk sz ix a (sub p 0 np) np).2.2 (sub p 0 (np - 1)) = some t ∧ knT kk a la = (pairF kk sz ix a (sub p 0 np) np).1 :: knT kk a t := by
  rcases Nat.eq_zero_or_pos np with h0 | h0
  · subst h0
    rw [wayF_nil ix h2 (by simp [sub])] at hw; cases hw
  · obtain ⟨hl, ht, hs⟩ := sub_init hp h0
    obtain ⟨p1, p2⟩ := splitN_pos (n := sz) h2
    have hg : (sub p 0 np).getD ((sub p 0 np).length - 1) d0 = (sub p 0 np).getD (np - 1) d0 := by rw [hl]
    refine ⟨h0, ?_⟩
    by_cases hk : ix < splitN sz
    · rw [wayF_lo h2 (by omega) hk, ht, hg] at hw
      obtain ⟨t, h3, rfl⟩ := Option.map_eq_some_iff.1 hw
      obtain ⟨e1, _⟩ := makes_way kk a (splitN sz) (splitN sz) ix (sub p 0 (np - 1)) (Nat.le_refl _) (by omega)
      have e := e1 t h3
      have hk' : (ix : Int) < (splitN sz : Nat) := by omega
      unfold pairF
      rw [if_pos hk', if_pos hk, hs, e]
      refine ⟨p1, p2, hk, rfl, t, h3, ?_⟩
      rfl
    · rw [wayF_hi h2 (by omega) (by omega), ht, hg] at hw
      obtain ⟨t, h3, rfl⟩ := Option.map_eq_some_iff.1 hw
      obtain ⟨e1, _⟩ := makes_way kk a (sz - splitN sz) (sz - splitN sz) (ix - splitN sz) (sub p 0 (np - 1)) (Nat.le_refl _) (by omega)
      have e := e1 t h3
      have hk' : ¬ (ix : Int) < (splitN sz : Nat) := by omega
      unfold pairF
      rw [if_neg hk', if_neg hk, hs, e]
      refine ⟨by show 1 ≤ sz - splitN sz; omega, by show sz - splitN sz < sz; omega, by show ix - splitN sz < sz - splitN sz; omega, rfl, t, h3, ?_⟩
      rfl
theorem clash_step {kk : Nat → BitVec 32} {a b : D} {p q : List D} {sz ix np nq : Nat} {R : Option (ByteArray × ByteArray)} (hI : cInv kk a b p q sz ix np nq R) (h2 : 2 ≤ sz) :
    1 ≤ np ∧ 1 ≤ nq ∧ 1 ≤ (pairF kk sz ix a (sub p 0 np) np).2.1 ∧ (pairF kk sz ix a (sub p 0 np) np).2.1 < sz ∧ (pairF kk sz ix a (sub p 0 np) np).2.2 < (pairF kk sz ix a (sub p 0 np) np).2.1 ∧
    (sameT (pairF kk sz ix a (sub p 0 np) np).1 (pairF kk sz ix b (sub q 0 nq) nq).1 = false → R = some ((pairF kk sz ix a (sub p 0 np) np).1, (pairF kk sz ix b (sub q 0 nq) nq).1)) ∧
    (sameT (pairF kk sz ix a (sub p 0 np) np).1 (pairF kk sz ix b (sub q 0 nq) nq).1 = true → cInv kk a b p q (pairF kk sz ix a (sub p 0 np) np).2.1 (pairF kk sz ix a (sub p 0 np) np).2.2 (np - 1) (nq - 1) R) := by
  obtain ⟨hp, hq, hi, la, lb, hwa, hwb, hR⟩ := hI
  obtain ⟨a1, a2, a3, a4, a5, ta, a6, a7⟩ := pair_way kk a hp h2 hi hwa
  obtain ⟨b1, b2, b3, b4, b5, tb, b6, b7⟩ := pair_way kk b hq h2 hi hwb
  rw [a7, b7] at hR
  have he : (pairF kk sz ix b (sub q 0 nq) nq).2 = (pairF kk sz ix a (sub p 0 np) np).2 := by rw [a5, b5]
  rw [he] at b6
  refine ⟨a1, b1, a2, a3, a4, fun h => ?_, fun h => ?_⟩
  · rw [← hR]
    show (if sameT _ _ then _ else _) = _
    rw [h]; rfl
  · refine ⟨by omega, by omega, a4, ta, tb, a6, b6, ?_⟩
    rw [← hR]
    show _ = (if sameT _ _ then _ else _)
    rw [h]; rfl
theorem clash_end {kk : Nat → BitVec 32} {a b : D} {p q : List D} {sz ix np nq : Nat} {R : Option (ByteArray × ByteArray)} (hI : cInv kk a b p q sz ix np nq R) (h2 : sz ≤ 1) : R = none := by
  obtain ⟨hp, hq, hi, la, lb, hwa, hwb, hR⟩ := hI
  rw [wayF_one ix _ h2] at hwa hwb
  split at hwa <;> first | (cases hwa; done) | skip
  split at hwb <;> first | (cases hwb; done) | skip
  injection hwa with hwa; injection hwb with hwb; subst hwa; subst hwb
  exact hR.symm
theorem incl_pos {kk : Nat → BitVec 32} {root leaf : D} {size index : Int} {ds : List D} (h : inclE kk root leaf size index ds = 0) : 1 ≤ size ∧ 0 ≤ index := by
  obtain ⟨sz, ix, l, e1, e2, g1, g2, g3, _⟩ := inclE_zero h
  omega
theorem refClash_ok (kk : Nat → BitVec 32) (hG0 : G 0 = some (rowE w32 64 kk)) (root : D) (size index : Int) (a : D) (p : List D) (b : D) (q : List D) (m n c c' : Nat) (hm : p.length = m) (hn : q.length = n) (hb : m ≤ 1000) (hb' : n ≤ 1000) (hc : m ≤ c) (hc' : n ≤ c') : CallL Tryd.prog G 18 [dgV root, .int .i64 size, .int .i64 index, dgV a, slv 0 0 m c, dgV b, slv 1 0 n c'] [dsR p, dsR q] (clashV (clashE kk root size index a p b q)) [dsR p, dsR q] := by
  refine walk (fn := Tryd.f18) (nt := 81) rfl rfl rfl rfl ?_
  refine c_hole 3 (H' := [dsR p, dsR q, hole, hole, hole]) rfl ?_
  refine c_seq ?_
  refine c_reg ?_
  refine r_box (v := dgV root) (b := dgB root) (nid := 2) (H' := [dsR p, dsR q, dgB root, hole, hole]) rfl rfl rfl (by kernel_rfl) (by kernel_rfl) ?_
  refine r_box (v := dgV a) (b := dgB a) (nid := 3) (H' := [dsR p, dsR q, dgB root, dgB a, hole]) rfl rfl rfl (by kernel_rfl) (by kernel_rfl) ?_
  refine r_box (v := dgV b) (b := dgB b) (nid := 4) (H' := [dsR p, dsR q, dgB root, dgB a, dgB b]) rfl rfl rfl (by kernel_rfl) (by kernel_rfl) ?_
  refine r_assign (v := .string ⟨#[]⟩) rfl rfl rfl ?_
  refine r_assign (v := .string ⟨#[]⟩) rfl rfl rfl ?_
  refine r_assign (v := .bool false) rfl rfl rfl ?_
  refine r_doneN ?_
  refine x_then ?_
  refine c_seq ?_
  refine c_seq ?_
  refine c_reg ?_
  refine r_load (p := pt 2 0) (v := dgV root) rfl rfl rfl (by kernel_rfl) ?_
  refine r_move (v := .int .i64 size) rfl rfl rfl ?_
  refine r_move (v := .int .i64 index) rfl rfl rfl ?_
  refine r_load (p := pt 3 0) (v := dgV a) rfl rfl rfl (by kernel_rfl) ?_
  refine r_move (v := slv 0 0 m c) rfl rfl rfl ?_
  refine r_callN (e := [some (0, 0)]) (nid := 0) (refIncluded_ok' (G := G) kk hG0 root size index a p m c hm (by omega) (by omega)) (vals := [dgV root, .int .i64 size, .int .i64 index, dgV a, slv 0 0 m c]) (v := .int .i64 ((inclE kk root a size index p))) (H' := [dsR p, dsR q, dgB root, dgB a, dgB b]) rfl rfl rfl rfl rfl rfl rfl ⟨⟨rfl, rfl, rfl, rfl, ⟨rfl, rfl, rfl, by omega, by omega⟩, trivial⟩, ⟨(emb_dsR rfl), trivial⟩, rfl, rfl, rfl⟩ rfl (by kernel_rfl) ?_
  by_cases h1 : ((inclE kk root a size index p)) ≠ 0
  · skip
    refine r_bin (v := .bool true) (vx := .int .i64 ((inclE kk root a size index p))) (vy := .int .i64 0) rfl rfl rfl rfl (neq_t (by omega)) ?_
    refine r_move (v := .bool true) rfl rfl rfl ?_
    refine r_skip rfl rfl ?_
    refine r_skip rfl rfl ?_
    refine r_skip rfl rfl ?_
    refine r_skip rfl rfl ?_
    refine r_skip rfl rfl ?_
    refine r_skip rfl rfl ?_
    refine r_skip rfl rfl ?_
    refine r_pick (v := .bool true) rfl rfl rfl ?_
    refine r_move (v := .bool true) rfl rfl rfl ?_
    refine r_skip rfl rfl ?_
    refine r_skip rfl rfl ?_
    refine r_skip rfl rfl ?_
    refine r_pick (v := .bool true) rfl rfl rfl ?_
    refine r_doneN ?_
    refine x_then ?_
    refine c_true rfl ?_
    refine c_seq ?_
    refine c_reg ?_
    refine r_assign (v := .string ⟨#[]⟩) rfl rfl rfl ?_
    refine r_assign (v := .string ⟨#[]⟩) rfl rfl rfl ?_
    refine r_assign (v := .bool false) rfl rfl rfl ?_
    refine r_doneN ?_
    refine x_then ?_
    refine c_ret ?_
    refine x_thenR ?_
    refine x_end ?_
    rw [show clashE kk root size index a p b q = none from by unfold clashE; rw [if_pos (by first | exact .inl (by assumption) | exact .inr (.inl (by omega)) | exact .inr (.inr (by omega)))]]
    exact end_same (v := .tuple #[.string ⟨#[]⟩, .string ⟨#[]⟩, .bool false]) rfl rfl rfl (by simp [keptB, dsR]) ⟨rfl, rfl, rfl, trivial⟩
  refine r_bin (v := .bool false) (vx := .int .i64 ((inclE kk root a size index p))) (vy := .int .i64 0) rfl rfl rfl rfl (neq_f (by omega)) ?_
  refine r_move (v := .bool false) rfl rfl rfl ?_
  refine r_load (p := pt 2 0) (v := dgV root) rfl rfl rfl (by kernel_rfl) ?_
  refine r_move (v := .int .i64 size) rfl rfl rfl ?_
  refine r_move (v := .int .i64 index) rfl rfl rfl ?_
  refine r_load (p := pt 4 0) (v := dgV b) rfl rfl rfl (by kernel_rfl) ?_
  refine r_move (v := slv 1 0 n c') rfl rfl rfl ?_
  refine r_callN (e := [some (1, 0)]) (nid := 0) (refIncluded_ok' (G := G) kk hG0 root size index b q n c' hn (by omega) (by omega)) (vals := [dgV root, .int .i64 size, .int .i64 index, dgV b, slv 1 0 n c']) (v := .int .i64 ((inclE kk root b size index q))) (H' := [dsR p, dsR q, dgB root, dgB a, dgB b]) rfl rfl rfl rfl rfl rfl rfl ⟨⟨rfl, rfl, rfl, rfl, ⟨rfl, rfl, rfl, by omega, by omega⟩, trivial⟩, ⟨(emb_dsR rfl), trivial⟩, rfl, rfl, rfl⟩ rfl (by kernel_rfl) ?_
  by_cases h2 : ((inclE kk root b size index q)) ≠ 0
  · skip
    refine r_bin (v := .bool true) (vx := .int .i64 ((inclE kk root b size index q))) (vy := .int .i64 0) rfl rfl rfl rfl (neq_t (by omega)) ?_
    refine r_pick (v := .bool true) rfl rfl rfl ?_
    refine r_move (v := .bool true) rfl rfl rfl ?_
    refine r_skip rfl rfl ?_
    refine r_skip rfl rfl ?_
    refine r_skip rfl rfl ?_
    refine r_pick (v := .bool true) rfl rfl rfl ?_
    refine r_doneN ?_
    refine x_then ?_
    refine c_true rfl ?_
    refine c_seq ?_
    refine c_reg ?_
    refine r_assign (v := .string ⟨#[]⟩) rfl rfl rfl ?_
    refine r_assign (v := .string ⟨#[]⟩) rfl rfl rfl ?_
    refine r_assign (v := .bool false) rfl rfl rfl ?_
    refine r_doneN ?_
    refine x_then ?_
    refine c_ret ?_
    refine x_thenR ?_
    refine x_end ?_
    rw [show clashE kk root size index a p b q = none from by unfold clashE; rw [if_pos (by first | exact .inl (by assumption) | exact .inr (.inl (by omega)) | exact .inr (.inr (by omega)))]]
    exact end_same (v := .tuple #[.string ⟨#[]⟩, .string ⟨#[]⟩, .bool false]) rfl rfl rfl (by simp [keptB, dsR]) ⟨rfl, rfl, rfl, trivial⟩
  refine r_bin (v := .bool false) (vx := .int .i64 ((inclE kk root b size index q))) (vy := .int .i64 0) rfl rfl rfl rfl (neq_f (by omega)) ?_
  refine r_pick (v := .bool false) rfl rfl rfl ?_
  refine r_move (v := .bool false) rfl rfl rfl ?_
  refine r_load (p := pt 3 0) (v := dgV a) rfl rfl rfl (by kernel_rfl) ?_
  refine r_load (p := pt 4 0) (v := dgV b) rfl rfl rfl (by kernel_rfl) ?_
  rcases Bool.eq_false_or_eq_true (sameB 32 a b) with h3 | h3
  · skip
    refine r_bin (v := .bool true) (vx := dgV a) (vy := dgV b) rfl rfl rfl rfl (Eq.trans (eql_dg (n := 32) (a := a) (b := b) (by kernel_rfl) rfl rfl rfl) (by rw [h3] <;> rfl)) ?_
    refine r_pick (v := .bool true) rfl rfl rfl ?_
    refine r_doneN ?_
    refine x_then ?_
    refine c_true rfl ?_
    refine c_seq ?_
    refine c_reg ?_
    refine r_assign (v := .string ⟨#[]⟩) rfl rfl rfl ?_
    refine r_assign (v := .string ⟨#[]⟩) rfl rfl rfl ?_
    refine r_assign (v := .bool false) rfl rfl rfl ?_
    refine r_doneN ?_
    refine x_then ?_
    refine c_ret ?_
    refine x_thenR ?_
    refine x_end ?_
    rw [show clashE kk root size index a p b q = none from by unfold clashE; rw [if_pos (by first | exact .inl (by assumption) | exact .inr (.inl (by omega)) | exact .inr (.inr (by omega)))]]
    exact end_same (v := .tuple #[.string ⟨#[]⟩, .string ⟨#[]⟩, .bool false]) rfl rfl rfl (by simp [keptB, dsR]) ⟨rfl, rfl, rfl, trivial⟩
  refine r_bin (v := .bool false) (vx := dgV a) (vy := dgV b) rfl rfl rfl rfl (Eq.trans (eql_dg (n := 32) (a := a) (b := b) (by kernel_rfl) rfl rfl rfl) (by rw [h3] <;> rfl)) ?_
  refine r_pick (v := .bool false) rfl rfl rfl ?_
  refine r_doneN ?_
  refine x_then ?_
  refine c_false rfl ?_
  refine c_skip ?_
  refine x_then ?_
  refine c_seq ?_
  refine c_block ?_
  obtain ⟨hz1, hz2⟩ := incl_pos (kk := kk) (root := root) (leaf := a) (size := size) (index := index) (ds := p) (by omega)
  obtain ⟨sz0, rfl⟩ : ∃ k : Nat, size = (k : Int) := ⟨size.toNat, by omega⟩
  obtain ⟨ix0, rfl⟩ : ∃ k : Nat, index = (k : Int) := ⟨index.toNat, by omega⟩
  obtain ⟨hI1, hI2, hI0⟩ := clash_begin (kk := kk) (root := root) (a := a) (b := b) (p := p) (q := q) (sz := sz0) (ix := ix0) hm hn (by assumption) (by omega) (by omega)
  generalize clashE kk root sz0 ix0 a p b q = R at *
  refine c_loopN (fun x : Nat × Nat × Nat × Nat => match x with | (sz, ix, np, nq) => [dgV root, .int .i64 (sz : Nat), .int .i64 (ix : Nat), dgV a, slv 0 0 np c, dgV b, slv 1 0 nq c', pt 2 0, dead, dead, pt 3 0, dead, pt 4 0, dead, dead, dead, dead, dead, dead, dead, dead, dead, dead, dgV root, .int .i64 (sz0 : Nat), .int .i64 (ix0 : Nat), dgV a, slv 0 0 m c, .int .i64 ((inclE kk root a ((sz0 : Nat)) ((ix0 : Nat)) p)), .bool false, .bool false, dgV root, .int .i64 (sz0 : Nat), .int .i64 (ix0 : Nat), dgV b, slv 1 0 n c', .int .i64 ((inclE kk root b ((sz0 : Nat)) ((ix0 : Nat)) q)), .bool false, .bool false, .bool false, dgV a, dgV b, .bool false, .bool false]) (fun x : Nat × Nat × Nat × Nat => match x with | (sz, ix, np, nq) => [dsR p, dsR q, dgB root, dgB a, dgB b]) (fun x : Nat × Nat × Nat × Nat => match x with | (sz, ix, np, nq) => 1 ≤ sz ∧ sz ≤ 100000 ∧ ix < sz ∧ np ≤ m ∧ nq ≤ n ∧ cInv kk a b p q sz ix np nq R) (fun x : Nat × Nat × Nat × Nat => match x with | (sz, ix, np, nq) => sz) (sz0, ix0, m, n) ⟨by omega, by omega, by omega, Nat.le_refl _, Nat.le_refl _, hI0⟩ ?_ ?_
  · refine weak_to (n := 5) rfl ?_ (by kernel_rfl) (by simp [dsR, dgB])
    repeat (first | exact trivial | refine ⟨.inl rfl, ?_⟩ | refine ⟨.inr ⟨rfl, rfl⟩, ?_⟩)
  rintro ⟨sz, ix, np, nq⟩ ⟨i1, i2, i3, i4, i5, hci⟩
  dsimp only at *
  refine c_seq ?_
  refine c_seq ?_
  refine c_reg ?_
  refine r_move (v := .int .i64 (sz : Nat)) rfl rfl rfl ?_
  by_cases h4 : 1 < (sz : Nat)
  · skip
    refine r_bin (v := .bool true) (vx := .int .i64 (sz : Nat)) (vy := .int .i64 1) rfl rfl rfl rfl (gtr_t (by omega)) ?_
    refine r_doneN ?_
    refine x_then ?_
    refine c_true rfl ?_
    refine c_skip ?_
    refine x_then ?_
    refine c_block ?_
    refine c_seq ?_
    obtain ⟨g1, g2, g3, g4, g5, g6, g7⟩ := clash_step hci (by omega)
    refine c_reg ?_
    refine r_move (v := .int .i64 (sz : Nat)) rfl rfl rfl ?_
    refine r_move (v := .int .i64 (ix : Nat)) rfl rfl rfl ?_
    refine r_load (p := pt 3 0) (v := dgV a) rfl rfl rfl (by kernel_rfl) ?_
    refine r_move (v := slv 0 0 np c) rfl rfl rfl ?_
    refine r_callN (e := [some (0, 0)]) (nid := 0) (pair_ok (G := G) kk hG0 sz ix a (sub p 0 np) np c (sub_len (by have := hm; omega)) (by omega) (by omega) (by omega) (by omega) (by omega) (by omega)) (vals := [.int .i64 (sz : Nat), .int .i64 (ix : Nat), dgV a, slv 0 0 np c]) (v := .tuple #[.string ((pairF kk sz ix a (sub p 0 np) np).1), .int .i64 ((((pairF kk sz ix a (sub p 0 np) np).2.1) : Nat) : Int), .int .i64 ((((pairF kk sz ix a (sub p 0 np) np).2.2) : Nat) : Int)]) (H' := [dsR p, dsR q, dgB root, dgB a, dgB b]) rfl rfl rfl rfl rfl rfl rfl ⟨⟨rfl, rfl, rfl, ⟨rfl, by omega, rfl, by omega, by omega⟩, trivial⟩, ⟨(emb_sub rfl (.inl rfl) (by have := hm; omega) (by omega)), trivial⟩, rfl, rfl, rfl⟩ (by kernel_rfl) (by kernel_rfl) ?_
    refine r_move (v := .tuple #[.string ((pairF kk sz ix a (sub p 0 np) np).1), .int .i64 ((((pairF kk sz ix a (sub p 0 np) np).2.1) : Nat) : Int), .int .i64 ((((pairF kk sz ix a (sub p 0 np) np).2.2) : Nat) : Int)]) rfl rfl rfl ?_
    refine r_extract (vs := #[.string ((pairF kk sz ix a (sub p 0 np) np).1), .int .i64 ((((pairF kk sz ix a (sub p 0 np) np).2.1) : Nat) : Int), .int .i64 ((((pairF kk sz ix a (sub p 0 np) np).2.2) : Nat) : Int)]) (v := .string ((pairF kk sz ix a (sub p 0 np) np).1)) rfl rfl rfl rfl ?_
    refine r_extract (vs := #[.string ((pairF kk sz ix a (sub p 0 np) np).1), .int .i64 ((((pairF kk sz ix a (sub p 0 np) np).2.1) : Nat) : Int), .int .i64 ((((pairF kk sz ix a (sub p 0 np) np).2.2) : Nat) : Int)]) (v := .int .i64 ((((pairF kk sz ix a (sub p 0 np) np).2.1) : Nat) : Int)) rfl rfl rfl rfl ?_
    refine r_extract (vs := #[.string ((pairF kk sz ix a (sub p 0 np) np).1), .int .i64 ((((pairF kk sz ix a (sub p 0 np) np).2.1) : Nat) : Int), .int .i64 ((((pairF kk sz ix a (sub p 0 np) np).2.2) : Nat) : Int)]) (v := .int .i64 ((((pairF kk sz ix a (sub p 0 np) np).2.2) : Nat) : Int)) rfl rfl rfl rfl ?_
    refine r_assign (v := .string ((pairF kk sz ix a (sub p 0 np) np).1)) rfl rfl rfl ?_
    refine r_assign (v := .int .i64 ((((pairF kk sz ix a (sub p 0 np) np).2.1) : Nat) : Int)) rfl rfl rfl ?_
    refine r_assign (v := .int .i64 ((((pairF kk sz ix a (sub p 0 np) np).2.2) : Nat) : Int)) rfl rfl rfl ?_
    refine r_doneN ?_
    refine x_then ?_
    refine c_seq ?_
    refine c_reg ?_
    refine r_move (v := .int .i64 (sz : Nat)) rfl rfl rfl ?_
    refine r_move (v := .int .i64 (ix : Nat)) rfl rfl rfl ?_
    refine r_load (p := pt 4 0) (v := dgV b) rfl rfl rfl (by kernel_rfl) ?_
    refine r_move (v := slv 1 0 nq c') rfl rfl rfl ?_
    refine r_callN (e := [some (1, 0)]) (nid := 0) (pair_ok (G := G) kk hG0 sz ix b (sub q 0 nq) nq c' (sub_len (by have := hn; omega)) (by omega) (by omega) (by omega) (by omega) (by omega) (by omega)) (vals := [.int .i64 (sz : Nat), .int .i64 (ix : Nat), dgV b, slv 1 0 nq c']) (v := .tuple #[.string ((pairF kk sz ix b (sub q 0 nq) nq).1), .int .i64 ((((pairF kk sz ix b (sub q 0 nq) nq).2.1) : Nat) : Int), .int .i64 ((((pairF kk sz ix b (sub q 0 nq) nq).2.2) : Nat) : Int)]) (H' := [dsR p, dsR q, dgB root, dgB a, dgB b]) rfl rfl rfl rfl rfl rfl rfl ⟨⟨rfl, rfl, rfl, ⟨rfl, by omega, rfl, by omega, by omega⟩, trivial⟩, ⟨(emb_sub rfl (.inl rfl) (by have := hn; omega) (by omega)), trivial⟩, rfl, rfl, rfl⟩ (by kernel_rfl) (by kernel_rfl) ?_
    refine r_move (v := .tuple #[.string ((pairF kk sz ix b (sub q 0 nq) nq).1), .int .i64 ((((pairF kk sz ix b (sub q 0 nq) nq).2.1) : Nat) : Int), .int .i64 ((((pairF kk sz ix b (sub q 0 nq) nq).2.2) : Nat) : Int)]) rfl rfl rfl ?_
    refine r_extract (vs := #[.string ((pairF kk sz ix b (sub q 0 nq) nq).1), .int .i64 ((((pairF kk sz ix b (sub q 0 nq) nq).2.1) : Nat) : Int), .int .i64 ((((pairF kk sz ix b (sub q 0 nq) nq).2.2) : Nat) : Int)]) (v := .string ((pairF kk sz ix b (sub q 0 nq) nq).1)) rfl rfl rfl rfl ?_
    refine r_extract (vs := #[.string ((pairF kk sz ix b (sub q 0 nq) nq).1), .int .i64 ((((pairF kk sz ix b (sub q 0 nq) nq).2.1) : Nat) : Int), .int .i64 ((((pairF kk sz ix b (sub q 0 nq) nq).2.2) : Nat) : Int)]) (v := .int .i64 ((((pairF kk sz ix b (sub q 0 nq) nq).2.1) : Nat) : Int)) rfl rfl rfl rfl ?_
    refine r_extract (vs := #[.string ((pairF kk sz ix b (sub q 0 nq) nq).1), .int .i64 ((((pairF kk sz ix b (sub q 0 nq) nq).2.1) : Nat) : Int), .int .i64 ((((pairF kk sz ix b (sub q 0 nq) nq).2.2) : Nat) : Int)]) (v := .int .i64 ((((pairF kk sz ix b (sub q 0 nq) nq).2.2) : Nat) : Int)) rfl rfl rfl rfl ?_
    refine r_assign (v := .string ((pairF kk sz ix b (sub q 0 nq) nq).1)) rfl rfl rfl ?_
    refine r_assign (v := .int .i64 ((((pairF kk sz ix b (sub q 0 nq) nq).2.1) : Nat) : Int)) rfl rfl rfl ?_
    refine r_assign (v := .int .i64 ((((pairF kk sz ix b (sub q 0 nq) nq).2.2) : Nat) : Int)) rfl rfl rfl ?_
    refine r_doneN ?_
    refine x_then ?_
    refine c_seq ?_
    refine c_seq ?_
    refine c_reg ?_
    refine r_move (v := .string ((pairF kk sz ix a (sub p 0 np) np).1)) rfl rfl rfl ?_
    refine r_move (v := .string ((pairF kk sz ix b (sub q 0 nq) nq).1)) rfl rfl rfl ?_
    rcases Bool.eq_false_or_eq_true (sameT ((pairF kk sz ix a (sub p 0 np) np).1) ((pairF kk sz ix b (sub q 0 nq) nq).1)) with h5 | h5
    · skip
      refine r_bin (v := .bool false) (vx := .string ((pairF kk sz ix a (sub p 0 np) np).1)) (vy := .string ((pairF kk sz ix b (sub q 0 nq) nq).1)) rfl rfl rfl rfl (Eq.trans (neq_str _ _) (by rw [h5] <;> rfl)) ?_
      refine r_doneN ?_
      refine x_then ?_
      refine c_false rfl ?_
      refine c_skip ?_
      refine x_then ?_
      refine c_seq ?_
      refine c_reg ?_
      refine r_move (v := .int .i64 ((((pairF kk sz ix a (sub p 0 np) np).2.1) : Nat) : Int)) rfl rfl rfl ?_
      refine r_assign (v := .int .i64 ((((pairF kk sz ix a (sub p 0 np) np).2.1) : Nat) : Int)) rfl rfl rfl ?_
      refine r_doneN ?_
      refine x_then ?_
      refine c_seq ?_
      refine c_reg ?_
      refine r_move (v := .int .i64 ((((pairF kk sz ix a (sub p 0 np) np).2.2) : Nat) : Int)) rfl rfl rfl ?_
      refine r_assign (v := .int .i64 ((((pairF kk sz ix a (sub p 0 np) np).2.2) : Nat) : Int)) rfl rfl rfl ?_
      refine r_doneN ?_
      refine x_then ?_
      refine c_seq ?_
      refine c_reg ?_
      refine r_move (v := slv 0 0 np c) rfl rfl rfl ?_
      refine r_move (v := slv 0 0 np c) rfl rfl rfl ?_
      refine r_len (p := slv 0 0 np c) (v := .int .i64 (np : Nat)) rfl rfl rfl rfl ?_
      refine r_bin (v := .int .i64 ((np : Nat) - 1)) (vx := .int .i64 (np : Nat)) (vy := .int .i64 1) rfl rfl rfl rfl (bin_sub (by omega) (by omega) (by omega)) ?_
      refine r_slice (p := slv 0 0 np c) (vl := none) (vh := some (.int .i64 ((np : Nat) - 1))) (v := slv 0 0 (np - 1) c) rfl rfl rfl rfl rfl (slice_hi (h := np - 1) rfl rfl (by omega) (by omega) rfl) ?_
      refine r_assign (v := slv 0 0 (np - 1) c) rfl rfl rfl ?_
      refine r_doneN ?_
      refine x_then ?_
      refine c_reg ?_
      refine r_move (v := slv 1 0 nq c') rfl rfl rfl ?_
      refine r_move (v := slv 1 0 nq c') rfl rfl rfl ?_
      refine r_len (p := slv 1 0 nq c') (v := .int .i64 (nq : Nat)) rfl rfl rfl rfl ?_
      refine r_bin (v := .int .i64 ((nq : Nat) - 1)) (vx := .int .i64 (nq : Nat)) (vy := .int .i64 1) rfl rfl rfl rfl (bin_sub (by omega) (by omega) (by omega)) ?_
      refine r_slice (p := slv 1 0 nq c') (vl := none) (vh := some (.int .i64 ((nq : Nat) - 1))) (v := slv 1 0 (nq - 1) c') rfl rfl rfl rfl rfl (slice_hi (h := nq - 1) rfl rfl (by omega) (by omega) rfl) ?_
      refine r_assign (v := slv 1 0 (nq - 1) c') rfl rfl rfl ?_
      refine r_doneN ?_
      refine x_blockN ?_
      refine x_round ⟨(((pairF kk sz ix a (sub p 0 np) np).2.1), ((pairF kk sz ix a (sub p 0 np) np).2.2), (np - 1), (nq - 1)), ⟨by dsimp only; omega, by dsimp only; omega, by dsimp only; omega, by dsimp only; omega, by dsimp only; omega, g7 h5⟩, by first | omega | (dsimp only; omega), ?_⟩
      refine weak_to (n := 5) rfl ?_ (by kernel_rfl) (by simp [dsR, dgB])
      repeat (first | exact trivial | refine ⟨.inl rfl, ?_⟩ | refine ⟨.inr ⟨rfl, rfl⟩, ?_⟩)
    refine r_bin (v := .bool true) (vx := .string ((pairF kk sz ix a (sub p 0 np) np).1)) (vy := .string ((pairF kk sz ix b (sub q 0 nq) nq).1)) rfl rfl rfl rfl (Eq.trans (neq_str _ _) (by rw [h5] <;> rfl)) ?_
    refine r_doneN ?_
    refine x_then ?_
    refine c_true rfl ?_
    refine c_seq ?_
    refine c_reg ?_
    refine r_move (v := .string ((pairF kk sz ix a (sub p 0 np) np).1)) rfl rfl rfl ?_
    refine r_move (v := .string ((pairF kk sz ix b (sub q 0 nq) nq).1)) rfl rfl rfl ?_
    refine r_assign (v := .string ((pairF kk sz ix a (sub p 0 np) np).1)) rfl rfl rfl ?_
    refine r_assign (v := .string ((pairF kk sz ix b (sub q 0 nq) nq).1)) rfl rfl rfl ?_
    refine r_assign (v := .bool true) rfl rfl rfl ?_
    refine r_doneN ?_
    refine x_then ?_
    refine c_ret ?_
    refine x_thenR ?_
    refine x_blockR ?_
    refine x_leaveR ?_
    refine x_blockR ?_
    refine x_thenR ?_
    refine x_end ?_
    rw [g6 h5]
    exact end_same (v := .tuple #[.string ((pairF kk sz ix a (sub p 0 np) np).1), .string ((pairF kk sz ix b (sub q 0 nq) nq).1), .bool true]) rfl rfl rfl (by simp [keptB, dsR]) ⟨rfl, rfl, rfl, trivial⟩
  refine r_bin (v := .bool false) (vx := .int .i64 (sz : Nat)) (vy := .int .i64 1) rfl rfl rfl rfl (gtr_f (by omega)) ?_
  refine r_doneN ?_
  refine x_then ?_
  refine c_false rfl ?_
  refine c_exit ?_
  refine x_thenE ?_
  refine x_leaveE ?_
  refine x_block rfl ?_
  refine x_then ?_
  refine c_seq ?_
  refine c_reg ?_
  refine r_assign (v := .string ⟨#[]⟩) rfl rfl rfl ?_
  refine r_assign (v := .string ⟨#[]⟩) rfl rfl rfl ?_
  refine r_assign (v := .bool false) rfl rfl rfl ?_
  refine r_doneN ?_
  refine x_then ?_
  refine c_ret ?_
  refine x_end ?_
  rw [clash_end hci (by omega)]
  exact end_same (v := .tuple #[.string ⟨#[]⟩, .string ⟨#[]⟩, .bool false]) rfl rfl rfl (by simp [keptB, dsR]) ⟨rfl, rfl, rfl, trivial⟩
end Go.Flat
