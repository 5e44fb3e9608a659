/- Walks and plain laws: what each theorem says, within the bounds that it names. -/
import Derived.Test.YthfklplpfbmkgaaDoorH26
set_option linter.unusedVariables false
set_option linter.unusedSimpArgs false
set_option maxRecDepth 20000
namespace Go.Flat
open Go.Proofs

theorem ofInt8_id (a : BitVec 8) (z : Int) (h : 0 ≤ z) (e : z.toNat % 256 = a.toNat) : BitVec.ofInt 8 z = a := by
  apply BitVec.eq_of_toNat_eq
  rw [ofInt8 z h, e]
theorem getF_inv {l : Bs} (h : (getF l l.length).2.2 = 0) : l = fldB (getF l l.length).1 ++ l.drop (getF l l.length).2.1.toNat ∧ (getF l l.length).1.data.size ≤ 65536 := by
  match l, h with
  | [], h => exact absurd h (by decide)
  | [_], h => exact absurd h (by simp [getF])
  | [_, _], h => exact absurd h (by simp [getF])
  | [_, _, _], h => exact absurd h (by simp [getF])
  | a :: b :: c :: d :: r, h =>
    have ha := a.isLt; have hb := b.isLt; have hc := c.isLt; have hd := d.isLt
    have g0 : (a :: b :: c :: d :: r).getD 0 0 = a := rfl
    have g1 : (a :: b :: c :: d :: r).getD 1 0 = b := rfl
    have g2 : (a :: b :: c :: d :: r).getD 2 0 = c := rfl
    have g3 : (a :: b :: c :: d :: r).getD 3 0 = d := rfl
    have g4 : (a :: b :: c :: d :: r).drop 4 = r := rfl
    have g5 : (a :: b :: c :: d :: r).length = r.length + 4 := rfl
    unfold getF at h ⊢
    rw [g0, g1, g2, g3, g4, g5] at h ⊢
    rw [if_neg (by omega)] at h ⊢
    split at h
    · exact absurd h (by decide)
    · rename_i h1
      split at h
      · exact absurd h (by decide)
      · rename_i h2
        split at h
        · exact absurd h (by decide)
        · rename_i h3
          rw [if_neg h1, if_neg h2, if_neg h3]
          generalize hN : 65536 * b.toNat + 256 * c.toNat + d.toNat = N at *
          have hz : 65536 * ((b.toNat : Nat) : Int) + 256 * ((c.toNat : Nat) : Int) + ((d.toNat : Nat) : Int) = (N : Int) := by omega
          rw [hz] at h2 h3 ⊢
          have hNr : N ≤ r.length := by omega
          have hs : (strOf (r.take N)).size = N := by rw [strOf_size, List.length_take]; omega
          dsimp only
          rw [show ((N : Int) + 4).toNat = N + 4 by omega]
          refine ⟨?_, by omega⟩
          show a :: b :: c :: d :: r = ([BitVec.ofInt 8 ((a.toNat : Nat) : Int), BitVec.ofInt 8 ((strOf (r.take N)).size / 65536 : Nat), BitVec.ofInt 8 ((strOf (r.take N)).size / 256 : Nat), BitVec.ofInt 8 ((strOf (r.take N)).size : Nat)] ++ bl (strOf (r.take N))) ++ (a :: b :: c :: d :: r).drop (N + 4)
          rw [hs, bl_strOf, ofInt8_id a _ (by omega) (by omega), ofInt8_id b _ (by omega) (by omega), ofInt8_id c _ (by omega) (by omega), ofInt8_id d _ (by omega) (by omega)]
          show a :: b :: c :: d :: r = a :: b :: c :: d :: (r.take N ++ r.drop N)
          rw [List.take_append_drop]
theorem readL_inv : ∀ (f : Nat) (l : Bs) (last : Int) (acc fs : List Field), readL f l last acc = (fs, 0) → l.length < f → ∃ gs : List Field, fs = acc ++ gs ∧ l = (gs.map fldB).flatten ∧ ∀ g, g ∈ gs → g.data.size ≤ 65536
  | 0, l, _, _, _, _, h => absurd h (Nat.not_lt_zero _)
  | f + 1, l, last, acc, fs, h, hf => by
    rw [readL] at h
    split at h
    · rename_i h0
      injection h with h1 _
      exact ⟨[], by simp [h1], by simpa using h0, fun g q => by cases q⟩
    · rename_i h0
      split at h
      · rename_i h1
        injection h with _ h2
        exact absurd h2 h1
      · rename_i h1
        split at h
        · injection h with _ h2; exact absurd h2 (by decide)
        · have h1' : (getF l l.length).2.2 = 0 := Decidable.byContradiction fun q => h1 q
          have hp := getF_pos h1'
          obtain ⟨e1, e2⟩ := getF_inv h1'
          obtain ⟨gs, q1, q2, q3⟩ := readL_inv f _ _ _ _ h (by rw [List.length_drop]; omega)
          refine ⟨(getF l l.length).1 :: gs, by rw [q1]; simp, ?_, fun g q => ?_⟩
          · rw [List.map_cons, List.flatten_cons, ← q2]; exact e1
          · rcases List.mem_cons.1 q with q | q
            · subst q; exact e2
            · exact q3 g q
theorem ofL_inv : ∀ (fs : List Field) (i : Nat) (ok : Bool) (acc ls : List ByteArray), ofL fs i ok acc = (true, ls) → ok = true ∧ ∃ ds, ls = acc ++ ds ∧ fs = rowF i ds
  | [], i, ok, acc, ls, h => by
    rw [ofL] at h
    injection h with h1 h2
    exact ⟨h1, [], by simp [h2], rfl⟩
  | f :: fs, i, ok, acc, ls, h => by
    rw [ofL] at h
    obtain ⟨h1, ds, h2, h3⟩ := ofL_inv fs (i + 1) _ _ _ h
    rw [Bool.and_eq_true, decide_eq_true_eq] at h1
    refine ⟨h1.1, f.data :: ds, by rw [h2]; simp, ?_⟩
    rw [rowF, ← h3, ← h1.2]
theorem rowX_flat : ∀ (ls : List ByteArray) (k : Nat), ((rowF k ls).map fldB).flatten = rowX k ls
  | [], _ => rfl
  | x :: l, k => by rw [rowF, List.map_cons, List.flatten_cons, rowX_flat l (k + 1), rowX]
theorem rowF_mem : ∀ (ls : List ByteArray) (k : Nat) (x : ByteArray), x ∈ ls → ∃ g, g ∈ rowF k ls ∧ g.data = x
  | [], _, x, h => by cases h
  | y :: l, k, x, h => by
    rw [rowF]
    rcases List.mem_cons.1 h with h | h
    · exact ⟨_, List.mem_cons_self, h.symm⟩
    · obtain ⟨g, h1, h2⟩ := rowF_mem l (k + 1) x h
      exact ⟨g, List.mem_cons_of_mem _ h1, h2⟩
theorem ofF_inv {l : Bs} {ls : List ByteArray} (h : ofF l = (true, ls)) (hl : ls.length ≤ 255) : l = bytesR ls := by
  unfold ofF at h
  obtain ⟨h1, ds, h2, h3⟩ := ofL_inv _ _ _ _ _ h
  rw [List.nil_append] at h2
  subst h2
  have hr : readL (l.length + 1) l 0 [] = ((readF l).1, 0) := by
    exact Prod.ext rfl (of_decide_eq_true h1)
  obtain ⟨gs, q1, q2, q3⟩ := readL_inv _ _ _ _ _ hr (by omega)
  rw [List.nil_append, h3] at q1
  subst q1
  rw [bytesR_X ls hl fun x hx => ?_, ← rowX_flat]
  · exact q2
  · obtain ⟨g, g1, g2⟩ := rowF_mem ls 0 x hx
    rw [← g2]; exact q3 g g1
theorem valL_inv : ∀ (l : Bs) (v n k : Nat) (acc : Bs), valL l v = ((n : Int), 0) → 0 < v → beL (k + l.length) n acc = beL k v (l ++ acc) ∧ (v ≤ 4611686018427387903 → n ≤ 4611686018427387903)
  | [], v, n, k, acc, h, hv => by
    rw [valL] at h
    injection h with h1 _
    have : v = n := by omega
    subst this
    exact ⟨rfl, fun h => h⟩
  | x :: l, v, n, k, acc, h, hv => by
    rw [valL] at h
    split at h
    · injection h with _ h2; exact absurd h2 (by decide)
    · rename_i hm
      have hx := x.isLt
      obtain ⟨q1, q2⟩ := valL_inv l _ n (k + 1) acc h (by omega)
      refine ⟨?_, fun _ => q2 (by omega)⟩
      rw [List.length_cons, show k + (l.length + 1) = k + 1 + l.length by omega, q1, beL, if_neg (by omega)]
      rw [ofInt8_id x _ (by omega) (by omega), show (v * 256 + x.toNat) / 256 = v by omega]; rfl
theorem valS_inv {s : ByteArray} (h : (valS s).2 = 0) : 0 ≤ (valS s).1 ∧ (valS s).1 ≤ 4611686018427387903 ∧ (numS (valS s).1).1 = s := by
  unfold valS at h ⊢
  split at h
  · exact absurd h (by decide)
  · rename_i hq
    rw [if_neg hq]
    rw [← bl_len] at hq
    have key : ∀ (l : Bs), ¬ (8 < l.length ∨ (1 ≤ l.length ∧ (l.getD 0 0 == 0#8) = true)) → (valL l 0).2 = 0 → 0 ≤ (valL l 0).1 ∧ (valL l 0).1 ≤ 4611686018427387903 ∧ (numS (valL l 0).1).1 = strOf l := by
      intro l hq h
      match l, hq, h with
      | [], _, _ => exact ⟨Int.le_refl _, by decide, rfl⟩
      | x :: r, hq, h =>
        have hx0 : ¬ (x == 0#8) = true := fun q => hq (.inr ⟨by simp, q⟩)
        have hx : 0 < x.toNat := by
          rcases Nat.eq_zero_or_pos x.toNat with e | e
          · exact absurd (beq_iff_eq.2 (BitVec.eq_of_toNat_eq (by simpa using e))) hx0
          · exact e
        have hr : r.length ≤ 7 := by have : ¬ 8 < (x :: r).length := fun q => hq (.inl q); simp at this; omega
        have hlt := x.isLt
        have e0 : valL (x :: r) 0 = valL r x.toNat := by rw [valL, if_neg (by omega)]; simp
        rw [e0] at h ⊢
        have hnn : ∀ (l : Bs) (v : Nat), 0 ≤ (valL l v).1 := by
          intro l
          induction l with
          | nil => intro v; rw [valL]; exact Int.natCast_nonneg v
          | cons y l ih => intro v; rw [valL]; split; exact Int.le_refl _; exact ih _
        have h1 := hnn r x.toNat
        have hv : valL r x.toNat = (((valL r x.toNat).1.toNat : Int), 0) := Prod.ext (by show _ = ((valL r x.toNat).1.toNat : Int); omega) h
        obtain ⟨q1, q2⟩ := valL_inv r x.toNat _ (8 - r.length) [] hv hx
        have hn := q2 (by omega)
        refine ⟨h1, by omega, ?_⟩
        unfold numS
        rw [if_pos ⟨h1, by omega⟩, numF_be]
        rw [show 8 - r.length + r.length = 8 by omega] at q1
        rw [q1, show 8 - r.length = (7 - r.length) + 1 by omega, beL, if_neg (by omega), show x.toNat / 256 = 0 by omega, beL_zero, ofInt8_id x _ (by omega) (by omega), List.append_nil]
    have := key (bl s) hq h
    rw [strOf_bl] at this
    exact this
theorem cpD_inv {s : ByteArray} (h : s.size = 32) : strOf (dgL (cpD s)) = s := by
  rw [← strOf_bl s]
  congr 1
  have hl : (bl s).length = 32 := by rw [bl_len, h]
  rw [strOf_bl]
  apply List.ext_getElem (by rw [dgL_len, hl])
  intro i h1 h2
  rw [dgL_len] at h1
  simp only [dgL, List.getElem_map, List.getElem_range, cpD]
  rw [if_pos (by omega), List.getD_eq_getElem?_getD, List.getElem?_eq_getElem h2]; rfl
theorem checkE_r {h : Head} (e : checkE h = 0) : rightH h := by
  rw [checkE_eq] at e
  exact Decidable.byContradiction fun q => by rw [if_neg q] at e; exact absurd e (by decide)
theorem pK_min (L : Nat) : ∀ k, pK L k = min k L
  | 0 => by simp [pK]
  | k + 1 => by
    rw [pK, pK_min L k]; unfold nxP
    split <;> omega
theorem getH_inv {l : Bs} (e : (getH l).2 = 0) : ∃ a b c d f, ofF l = (true, [a, b, c, d, f]) ∧ (valS a).2 = 0 ∧ (valS b).2 = 0 ∧ (valS c).2 = 0 ∧ d.size = 32 ∧ (valS f).2 = 0 ∧ (getH l).1 = ⟨(valS a).1, (valS b).1, (valS c).1, cpD d, (valS f).1⟩ ∧ rightH (getH l).1 := by
  unfold getH at e ⊢
  generalize ofF l = p at e ⊢
  obtain ⟨ok, ls⟩ := p
  dsimp only at e ⊢
  split at e
  · rename_i q
    rw [if_pos q]
    have q' := q
    simp only [Bool.and_eq_true, decide_eq_true_eq] at q
    obtain ⟨⟨⟨⟨⟨⟨⟨⟨⟨⟨a0, a1⟩, a2⟩, a3⟩, a4⟩, a5⟩, a6⟩, a7⟩, a8⟩, a9⟩, a10⟩ := q
    split at e
    · exact absurd e (by decide)
    · rename_i r1
      rw [if_neg r1]
      split at e
      · exact absurd e (by decide)
      · rename_i r2
        rw [if_neg r2]
        have L5 : ls.length = 5 := by
          rw [pK_min] at a9 r1
          unfold remP at r1
          omega
        match ls, L5 with
        | [a, b, c, d, f], _ =>
          have r2' := Decidable.byContradiction r2
          subst a0
          refine ⟨a, b, c, d, f, rfl, a2, a4, a6, a8, a10, ?_, checkE_r r2'⟩
          dsimp only
          congr 1
          show digD _ d = cpD d
          unfold digD
          rw [if_pos]
          simp only [Bool.and_eq_true, decide_eq_true_eq]
          exact ⟨⟨⟨⟨⟨⟨⟨trivial, a1⟩, a2⟩, a3⟩, a4⟩, a5⟩, a6⟩, a7⟩
  · exact absurd e (by decide)
theorem putH_getH {l : Bs} (e : (getH l).2 = 0) : rightH (getH l).1 ∧ bytesR (headL (getH l).1) = l := by
  obtain ⟨a, b, c, d, f, h0, h1, h2, h3, h4, h5, h6, h7⟩ := getH_inv e
  refine ⟨h7, ?_⟩
  rw [h6]
  unfold headL
  dsimp only
  rw [(valS_inv h1).2.2, (valS_inv h2).2.2, (valS_inv h3).2.2, (valS_inv h5).2.2, cpD_inv h4]
  exact (ofF_inv h0 (by simp)).symm
theorem getS_inv {l : Bs} (e : (getS l).2 = 0) : ∃ a b c, ofF l = (true, [a, b, c]) ∧ (getH (bl a)).2 = 0 ∧ (valS b).2 = 0 ∧ c.size = 32 ∧ (getS l).1 = ⟨(getH (bl a)).1, (valS b).1, cpD c⟩ ∧ mayS (getS l).1 := by
  unfold getS at e ⊢
  generalize ofF l = p at e ⊢
  obtain ⟨ok, ls⟩ := p
  dsimp only at e ⊢
  split at e
  · rename_i q
    rw [if_pos q]
    simp only [Bool.and_eq_true, decide_eq_true_eq] at q
    obtain ⟨⟨⟨⟨⟨a0, a1⟩, a3⟩, a4⟩, a5⟩, a6⟩ := q
    split at e
    · exact absurd e (by decide)
    · rename_i r0
      rw [if_neg r0]
      split at e
      · exact absurd e (by decide)
      · rename_i r1
        rw [if_neg r1]
        split at e
        · rename_i r2
          rw [if_pos r2]
          split at e
          · rename_i r3
            rw [if_pos r3]
            have L5 : ls.length = 3 := by
              rw [pK_min] at a5 r1
              unfold remP at r1
              omega
            match ls, L5 with
            | [a, b, c], _ =>
              have r0' := Decidable.byContradiction r0
              subst a0
              have hd : digD (((((true && decide (pK 3 0 < 3)) && decide (pK 3 1 < 3)) && decide ((valS b).2 = 0)) && decide (pK 3 2 < 3))) c = cpD c := by
                unfold digD
                rw [if_pos]
                simp only [Bool.and_eq_true, decide_eq_true_eq]
                exact ⟨⟨⟨⟨trivial, a1⟩, a3⟩, a4⟩, a5⟩
              refine ⟨a, b, c, rfl, r0', a4, a6, ?_, (getH_inv r0').elim fun _ q => ?_⟩
              · dsimp only
                congr 1
              · obtain ⟨_, _, _, _, _, _, _, _, _, _, _, g⟩ := q
                exact ⟨g, r2, r3⟩
          · exact absurd e (by decide)
        · exact absurd e (by decide)
  · exact absurd e (by decide)
theorem putS_getS {l : Bs} (e : (getS l).2 = 0) : mayS (getS l).1 ∧ bytesR (signedL (getS l).1) = l := by
  obtain ⟨a, b, c, h0, h1, h2, h3, h4, h5⟩ := getS_inv e
  refine ⟨h5, ?_⟩
  rw [h4]
  unfold signedL
  dsimp only
  rw [(putH_getH h1).2, (valS_inv h2).2.2, cpD_inv h3, strOf_bl]
  exact (ofF_inv h0 (by simp)).symm
end Go.Flat
