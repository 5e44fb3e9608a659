/- Walks. -/
import Derived.Test.YtfjkagjbanhdlaaDoorT3B
import Derived.Test.YtfjkagjbanhdlaaDoorK11
set_option linter.unusedVariables false
set_option linter.unusedSimpArgs false
set_option maxRecDepth 20000
namespace Go.Flat
open Go.Proofs
variable {G : Glob}
section
variable (kk : Nat → BitVec 32)
theorem Z0z {a b : ByteArray} (h : Zjg a b = true) : a = b := by
  unfold Zjg at h
  have h1 := beq_iff_eq.1 h
  rw [ByteArray.toList_eq, ByteArray.toList_eq] at h1
  have h2 := Array.toList_inj.1 h1
  cases a; cases b; dsimp only at h2; rw [h2]
theorem Zon (a b : D) : (tx a b).size = 65 := by
 have e1 : Zof.size = 1 := rfl
 simp only [tx, ByteArray.size_append, Zay, Zev, e1]
theorem Z0t (a b : D) : bl (tx a b) = Zbg [Zof, Zn (dgL a), Zn (dgL b)] := by
 simp only [tx, Zy8, Zbg, List.map_cons, List.map_nil, List.flatten_cons, List.flatten_nil, List.append_nil, List.append_assoc]
theorem Z1t {a b c d : D} (h : tx a b = tx c d) : Za6 32 a c = true ∧ Za6 32 b d = true := by
 have h1 : bl (tx a b) = bl (tx c d) := by rw [h]
 rw [Z0t, Z0t] at h1
 simp only [Zbg, List.map_cons, List.map_nil, List.flatten_cons, List.flatten_nil, List.append_nil, Zov] at h1
 have h2 := List.append_cancel_left h1
 obtain ⟨h3, h4⟩ := List.append_inj h2 (by rw [Zev, Zev])
 refine ⟨Zcy.2 ?_, Zcy.2 ?_⟩
 ·rw [Zoo, Zoo, h3]
 ·rw [Zoo, Zoo, h4]
theorem Zlc (a b : D) (hab : Za6 32 a b = false) : ∀ (la lb : List Stp), la.map (·.2) = lb.map (·.2) → Za6 32 ((knA kk a la).getD 0 d0) ((knA kk b lb).getD 0 d0) = true →
    ∃ s t, Zff (knT kk a la) (knT kk b lb) = some (s, t) ∧ Zjg s t = false ∧ s.size = 65 ∧ t.size = 65 ∧ Za6 32 (Zbi kk (bl s)) (Zbi kk (bl t)) = true
  | [], [], _, h => by
    have : Za6 32 a b = true := h
    rw [hab] at this; cases this
  | [], _ :: _, hm, _ => by cases hm
  | _ :: _, [], hm, _ => by cases hm
  | (x, r) :: ta, (y, r') :: tb, hm, h => by
    obtain ⟨hr, hm'⟩ := List.cons.inj hm
    dsimp only at hr
    subst hr
    generalize hA : (knA kk a ta).getD 0 d0 = A
    generalize hB : (knA kk b tb).getD 0 d0 = B
    simp only [knA, knT, hA, hB, List.getD_cons_zero] at h ⊢
    have hk : ∀ p q : D, Ze8 kk p q = Zbi kk (bl (tx p q)) := fun p q => by rw [Z0t]; rfl
    cases r with
    | true =>
      simp only [if_true] at h ⊢
      rw [hk, hk] at h
      cases hs : Zjg (tx x A) (tx y B) with
      | false => exact ⟨tx x A, tx y B, by unfold Zff; rw [hs]; rfl, hs, Zon _ _, Zon _ _, h⟩
      | true =>
        obtain ⟨s, t, g1, g2⟩ := Zlc a b hab ta tb hm' (by rw [hA, hB]; exact (Z1t (Z0z hs)).2)
        exact ⟨s, t, by unfold Zff; rw [hs]; exact g1, g2⟩
    | false =>
      simp only [Bool.false_eq_true, if_false] at h ⊢
      rw [hk, hk] at h
      cases hs : Zjg (tx A x) (tx B y) with
      | false => exact ⟨tx A x, tx B y, by unfold Zff; rw [hs]; rfl, hs, Zon _ _, Zon _ _, h⟩
      | true =>
        obtain ⟨s, t, g1, g2⟩ := Zlc a b hab ta tb hm' (by rw [hA, hB]; exact (Z1t (Z0z hs)).1)
        exact ⟨s, t, by unfold Zff; rw [hs]; exact g1, g2⟩
theorem Zm9 : ∀ (n size index : Nat) (p q : List D) (la lb : List Stp), size ≤ n → Zfa size index p = some la → Zfa size index q = some lb → la.map (·.2) = lb.map (·.2)
  | 0, size, index, p, q, la, lb, h, hp, hq => by
    rw [Zfr index _ (by omega)] at hp hq
    split at hp <;> first | (cases hp; done) | skip
    split at hq <;> first | (cases hq; done) | skip
    injection hp with hp; injection hq with hq; subst hp; subst hq; rfl
  | n + 1, size, index, p, q, la, lb, h, hp, hq => by
    by_cases h2 : 2 ≤ size
    · obtain ⟨p1, p2⟩ := Zdx h2
      rcases Nat.eq_zero_or_pos p.length with h0 | h0
      · rw [Zid index h2 h0] at hp; cases hp
      rcases Nat.eq_zero_or_pos q.length with h4 | h4
      · rw [Zid index h2 h4] at hq; cases hq
      by_cases hi : index < Zan size
      · rw [Zhp h2 h0 hi] at hp
        rw [Zhp h2 h4 hi] at hq
        obtain ⟨la', h5, rfl⟩ := Option.map_eq_some_iff.1 hp
        obtain ⟨lb', h6, rfl⟩ := Option.map_eq_some_iff.1 hq
        simp [Zm9 n _ _ _ _ _ _ (by omega) h5 h6]
      · rw [Zhu h2 h0 (by omega)] at hp
        rw [Zhu h2 h4 (by omega)] at hq
        obtain ⟨la', h5, rfl⟩ := Option.map_eq_some_iff.1 hp
        obtain ⟨lb', h6, rfl⟩ := Option.map_eq_some_iff.1 hq
        simp [Zm9 n _ _ _ _ _ _ (by omega) h5 h6]
    · rw [Zfr index _ (by omega)] at hp hq
      split at hp <;> first | (cases hp; done) | skip
      split at hq <;> first | (cases hq; done) | skip
      injection hp with hp; injection hq with hq; subst hp; subst hq; rfl
theorem Z1x {root a b : D} {size index : Int} {p q : List D} (hab : Za6 32 a b = false) (h1 : Zdk kk root a size index p = 0) (h2 : Zdk kk root b size index q = 0) :
  ∃ s t, Zf2 kk root size index a p b q = some (s, t) ∧ Zjg s t = false ∧ s.size = 65 ∧ t.size = 65 ∧ Za6 32 (Zbi kk (bl s)) (Zbi kk (bl t)) = true := by
 have hE : Zf2 kk root size index a p b q = (match Zfa size.toNat index.toNat p, Zfa size.toNat index.toNat q with
  | some la, some lb => Zff (knT kk a la) (knT kk b lb)
  | _, _ => none) := by
  unfold Zf2; rw [if_neg (by rw [hab, h1, h2]; simp)]; rfl
 obtain ⟨sz1, ix1, la, e1, e2, g1, g2, g3, hwa, hra⟩ := Zix h1
 obtain ⟨sz2, ix2, lb, e3, e4, g4, g5, g6, hwb, hrb⟩ := Zix h2
 subst e1; subst e2
 obtain rfl : sz1 = sz2 := by omega
 obtain rfl : ix1 = ix2 := by omega
 rw [show (sz1 : Int).toNat = sz1 from rfl, show (ix1 : Int).toNat = ix1 from rfl, hwa, hwb] at hE
 rw [hE]
 refine Zlc kk a b hab la lb (Zm9 sz1 _ _ _ _ _ _ (Nat.le_refl _) hwa hwb) ?_
 exact Zcy.2 ((Zcy.1 hra).trans (Zcy.1 hrb).symm)
end
def Zl2 (l : List PStep) : Bool := l.any fun x => decide (60 < x.proof.length) || decide (1000 < x.item.entry.text.size)
theorem Zol {x y : PStep} (h : 60 < x.proof.length ∨ 1000 < x.item.entry.text.size ∨ 60 < y.proof.length ∨ 1000 < y.item.entry.text.size) : Zl2 [x, y] = true := by
 unfold Zl2
 simp only [List.any_cons, List.any_nil, Bool.or_false, Bool.or_eq_true, decide_eq_true_eq]
 omega
theorem Z2f {x y : PStep} (h1 : ¬ 60 < x.proof.length) (h2 : ¬ 1000 < x.item.entry.text.size) (h3 : ¬ 60 < y.proof.length) (h4 : ¬ 1000 < y.item.entry.text.size) : Zl2 [x, y] = false := by
 unfold Zl2
 simp only [List.any_cons, List.any_nil, Bool.or_false, Bool.or_eq_false_iff, decide_eq_false_iff_not]
 omega
theorem Zzq {x y : PStep} (h : Zl2 [x, y] = false) : x.proof.length ≤ 60 ∧ x.item.entry.text.size ≤ 1000 ∧ y.proof.length ≤ 60 ∧ y.item.entry.text.size ≤ 1000 := by
 unfold Zl2 at h
 simp only [List.any_cons, List.any_nil, Bool.or_false, Bool.or_eq_false_iff, decide_eq_false_iff_not] at h
 omega
theorem Zgy {kk : Nat → BitVec 32} {m : D} {x : PStep} (h : Zcw kk m [x] = 0) : Zb6 kk m x.head = 0 ∧ (Z1 kk x.item).2 = 0 ∧ Zdk kk x.head.head.root (Z1 kk x.item).1 x.head.head.size x.index x.proof = 0 := by
 rw [Zn1] at h
 unfold Zag at h
 split at h
 ·rename_i h1
  split at h
  ·rename_i h2; exact ⟨h1, h2, h⟩
  ·exact absurd h (by decide)
 ·rename_i h1; exact absurd h h1
theorem Zvp {kk : Nat → BitVec 32} {r r' leaf : D} {size index : Int} {ds : List D} (hr : Za6 32 r r' = true) (h : Zdk kk r leaf size index ds = 0) : Zdk kk r' leaf size index ds = 0 := by
 unfold Zdk at h ⊢
 split
 ·rename_i q; rw [if_pos q] at h; exact h
 ·rename_i q
  rw [if_neg q] at h
  split
  ·rename_i q2; rw [q2] at h; exact h
  ·rename_i l q2
   rw [q2] at h
   dsimp only at h ⊢
   split at h
   ·rename_i q3; rw [if_pos (Zcy.2 ((Zcy.1 q3).trans (Zcy.1 hr)))]
   ·exact absurd h (by decide)
theorem Zwr {kk : Nat → BitVec 32} {master : D} {x y : PStep} (h1 : Zcw kk master [x] = 0) (h2 : Zcw kk master [y] = 0) (h3 : Zc9 x.head y.head = true) (h4 : x.index = y.index) (h5 : Za6 32 (Z1 kk x.item).1 (Z1 kk y.item).1 = false) :
  ∃ s t, Zf2 kk x.head.head.root x.head.head.size x.index (Z1 kk x.item).1 x.proof (Z1 kk y.item).1 y.proof = some (s, t) ∧ Zjg s t = false ∧ s.size = 65 ∧ t.size = 65 ∧ Za6 32 (Zbi kk (bl s)) (Zbi kk (bl t)) = true := by
 obtain ⟨a1, a2, a3⟩ := Zgy h1
 obtain ⟨b1, b2, b3⟩ := Zgy h2
 have hh : Zg1 x.head.head y.head.head = true := by
  unfold Zc9 at h3; simp only [Bool.and_eq_true] at h3; exact h3.1
 have hsz : x.head.head.size = y.head.head.size := by
  unfold Zg1 at hh; simp only [Bool.and_eq_true, beq_iff_eq] at hh; exact hh.2.2.1
 have hrt : Za6 32 x.head.head.root y.head.head.root = true := by
  unfold Zg1 at hh; simp only [Bool.and_eq_true, beq_iff_eq] at hh; exact hh.2.2.2.1
 rw [← hsz, ← h4] at b3
 exact Z1x kk h5 a3 (Zvp (by exact Zcy.2 (Zcy.1 hrt).symm) b3)
theorem Z0y {G : Glob} (kk : Nat → BitVec 32) (hG : G 0 = some (Zac w32 64 kk)) (s : ByteArray) (h : s.size ≤ 1000000) : Zae Tryd.prog G 20 [slv 0 0 1 1] [Zjo [s]] (dgV (Zbi kk (bl s))) [Zjo [s]] := by
 have := Zru (G := G) kk hG [s] 1 (by simp) (fun x hx => by rw [List.mem_singleton] at hx; subst hx; omega)
 rwa [show Zbg [s] = bl s by simp [Zbg]] at this
theorem Zt7 (x1 : PStep) (n1 c1 : Nat) (hn1 : x1.proof.length = n1) (hc1 : n1 ≤ c1) (hb1 : n1 ≤ 9223372036854775807) (x2 : PStep) (n2 c2 : Nat) (hn2 : x2.proof.length = n2) (hc2 : n2 ≤ c2) (hb2 : n2 ≤ 9223372036854775807) (c : Nat) (hc : 2 ≤ c) : Zae Tryd.prog G 17 [slv 0 0 2 c] [mxR 181 ([Iv x1.index] ++ (Zh x1.item ++ ([slv 1 0 n1 c1] ++ (Zd x1.head ++ ([Iv x2.index] ++ (Zh x2.item ++ ([slv 2 0 n2 c2] ++ (Zd x2.head)))))))), dsR x1.proof, dsR x2.proof] (.bool (Zl2 [x1, x2])) [mxR 181 ([Iv x1.index] ++ (Zh x1.item ++ ([slv 1 0 n1 c1] ++ (Zd x1.head ++ ([Iv x2.index] ++ (Zh x2.item ++ ([slv 2 0 n2 c2] ++ (Zd x2.head)))))))), dsR x1.proof, dsR x2.proof] := by
  refine Zbj (fn := Tryd.f17) (nt := 31) rfl rfl rfl rfl ?_
  refine Zf (Zg (Zc rfl rfl (.bool false) rfl (Za (Zb (Zf (Zf (Zg (Ze rfl rfl (slv 0 0 2 c) rfl ?_))))))))
  refine Zbl (p := slv 0 0 2 c) (v := Iv 2) rfl rfl rfl rfl ?_
  refine Zk (vx := Iv 2) (vy := Iv 20) rfl rfl (.bool false) rfl rfl (Zej (by omega)) ?_
  refine Za (Zb (Zv rfl (Z2 (Zb (Zf (Zf (Zg (Zc rfl rfl (Iv 0) rfl (Za (Zb (Z9 ?_)))))))))))
  refine Zlq 3 ?_
  refine Zfy (Zf (Zf (Zg ?_)))
  refine Ze rfl rfl (Iv 0) rfl (Ze rfl rfl (slv 0 0 2 c) rfl ?_)
  refine Zbl (p := slv 0 0 2 c) (v := Iv 2) rfl rfl rfl rfl ?_
  refine Zk (vx := Iv 0) (vy := Iv 2) rfl rfl (.bool true) rfl rfl (Zcq (by omega)) ?_
  refine Za (Zb (Zz rfl (Z2 (Zb (Zf (Z9 (Zf (Zg (Ze rfl rfl (slv 0 0 2 c) rfl (Ze rfl rfl (Iv 0) rfl ?_))))))))))
  refine Zbf (b := 0) (o := 0) (j := 0) (m := 2) (c := c) (sz := 181) (i := 0) (k := .i64) rfl rfl rfl rfl rfl (by omega) (by omega) (by omega) ?_
  refine Zi (b := 0) (o := 0) (n := 111) (o' := 0 + 111) rfl rfl rfl rfl (by omega) ?_
  refine Zl (p := pt 0 (0 + 111)) (v := slv 1 0 n1 c1) rfl rfl rfl (by kernel_rfl) ?_
  refine Zbl (p := slv 1 0 n1 c1) (v := Iv (n1 : Nat)) rfl rfl rfl rfl ?_
  by_cases h1 : 60 < (n1 : Nat)
  refine Zk (vx := Iv (n1 : Nat)) (vy := Iv 60) rfl rfl (.bool true) rfl rfl (Zet (by omega)) ?_
  refine Ze rfl rfl (.bool true) rfl (Zj rfl rfl (Zj rfl rfl (Zj rfl rfl (Zj rfl rfl (Zj rfl rfl (Zj rfl rfl (Zj rfl rfl (Zj rfl rfl (Zj rfl rfl (Zo rfl rfl (.bool true) rfl (Za (Zb (Zz rfl (Zf (Zg (Zc rfl rfl (.bool true) rfl (Za (Zb (Zt (Zbq (Z3 (Zc3 (Zbq (Z3 (Zu ?_)))))))))))))))))))))))))
  rw [show Zl2 [x1, x2] = true from Zol (by first | exact .inl (by omega) | exact .inr (.inl (by omega)) | exact .inr (.inr (.inl (by omega))) | exact .inr (.inr (.inr (by omega))))]
  exact Zm (v := .bool true) rfl rfl rfl (by kernel_rfl) rfl
  refine Zk (vx := Iv (n1 : Nat)) (vy := Iv 60) rfl rfl (.bool false) rfl rfl (Zej (by omega)) ?_
  refine Ze rfl rfl (.bool false) rfl (Ze rfl rfl (slv 0 0 2 c) rfl (Ze rfl rfl (Iv 0) rfl ?_))
  refine Zbf (b := 0) (o := 0) (j := 0) (m := 2) (c := c) (sz := 181) (i := 0) (k := .i64) rfl rfl rfl rfl rfl (by omega) (by omega) (by omega) ?_
  refine Zi (b := 0) (o := 0) (n := 1) (o' := 0 + 1) rfl rfl rfl rfl (by omega) ?_
  refine Zi (b := 0) (o := 0 + 1) (n := 1) (o' := 0 + 2) rfl rfl rfl rfl (by omega) ?_
  refine Zi (b := 0) (o := 0 + 2) (n := 3) (o' := 0 + 5) rfl rfl rfl rfl (by omega) ?_
  refine Zl (p := pt 0 (0 + 5)) (v := .string x1.item.entry.text) rfl rfl rfl (by kernel_rfl) ?_
  refine Zbl (p := .string x1.item.entry.text) (v := Iv (x1.item.entry.text.size : Nat)) rfl rfl rfl rfl ?_
  by_cases h2 : 1000 < (x1.item.entry.text.size : Nat)
  refine Zk (vx := Iv (x1.item.entry.text.size : Nat)) (vy := Iv 1000) rfl rfl (.bool true) rfl rfl (Zet (by omega)) ?_
  refine Zo rfl rfl (.bool true) rfl (Za (Zb (Zz rfl (Zf (Zg (Zc rfl rfl (.bool true) rfl (Za (Zb (Zt (Zbq (Z3 (Zc3 (Zbq (Z3 (Zu ?_)))))))))))))))
  rw [show Zl2 [x1, x2] = true from Zol (by first | exact .inl (by omega) | exact .inr (.inl (by omega)) | exact .inr (.inr (.inl (by omega))) | exact .inr (.inr (.inr (by omega))))]
  exact Zm (v := .bool true) rfl rfl rfl (by kernel_rfl) rfl
  refine Zk (vx := Iv (x1.item.entry.text.size : Nat)) (vy := Iv 1000) rfl rfl (.bool false) rfl rfl (Zej (by omega)) ?_
  refine Zo rfl rfl (.bool false) rfl (Za (Zb (Zv rfl (Z2 (Zab (Zb (Zg (Ze rfl rfl (Iv 0) rfl ?_))))))))
  refine Zk (vx := Iv 0) (vy := Iv 1) rfl rfl (Iv 1) rfl rfl (Zaz (by omega) (by omega) (by omega)) ?_
  refine Zc rfl rfl (Iv 1) rfl (Za (Zjc (Zfy (Zf (Zf (Zg (Ze rfl rfl (Iv 1) rfl (Ze rfl rfl (slv 0 0 2 c) rfl ?_))))))))
  refine Zbl (p := slv 0 0 2 c) (v := Iv 2) rfl rfl rfl rfl ?_
  refine Zk (vx := Iv 1) (vy := Iv 2) rfl rfl (.bool true) rfl rfl (Zcq (by omega)) ?_
  refine Za (Zb (Zz rfl (Z2 (Zb (Zf (Z9 (Zf (Zg (Ze rfl rfl (slv 0 0 2 c) rfl (Ze rfl rfl (Iv 1) rfl ?_))))))))))
  refine Zbf (b := 0) (o := 0) (j := 181) (m := 2) (c := c) (sz := 181) (i := 1) (k := .i64) rfl rfl rfl rfl rfl (by omega) (by omega) (by omega) ?_
  refine Zi (b := 0) (o := 181) (n := 111) (o' := 181 + 111) rfl rfl rfl rfl (by omega) ?_
  refine Zl (p := pt 0 (181 + 111)) (v := slv 2 0 n2 c2) rfl rfl rfl (by kernel_rfl) ?_
  refine Zbl (p := slv 2 0 n2 c2) (v := Iv (n2 : Nat)) rfl rfl rfl rfl ?_
  by_cases h3 : 60 < (n2 : Nat)
  refine Zk (vx := Iv (n2 : Nat)) (vy := Iv 60) rfl rfl (.bool true) rfl rfl (Zet (by omega)) ?_
  refine Ze rfl rfl (.bool true) rfl (Zj rfl rfl (Zj rfl rfl (Zj rfl rfl (Zj rfl rfl (Zj rfl rfl (Zj rfl rfl (Zj rfl rfl (Zj rfl rfl (Zj rfl rfl (Zo rfl rfl (.bool true) rfl (Za (Zb (Zz rfl (Zf (Zg (Zc rfl rfl (.bool true) rfl (Za (Zb (Zt (Zbq (Z3 (Zc3 (Zbq (Z3 (Zu ?_)))))))))))))))))))))))))
  rw [show Zl2 [x1, x2] = true from Zol (by first | exact .inl (by omega) | exact .inr (.inl (by omega)) | exact .inr (.inr (.inl (by omega))) | exact .inr (.inr (.inr (by omega))))]
  exact Zm (v := .bool true) rfl rfl rfl (by kernel_rfl) rfl
  refine Zk (vx := Iv (n2 : Nat)) (vy := Iv 60) rfl rfl (.bool false) rfl rfl (Zej (by omega)) ?_
  refine Ze rfl rfl (.bool false) rfl (Ze rfl rfl (slv 0 0 2 c) rfl (Ze rfl rfl (Iv 1) rfl ?_))
  refine Zbf (b := 0) (o := 0) (j := 181) (m := 2) (c := c) (sz := 181) (i := 1) (k := .i64) rfl rfl rfl rfl rfl (by omega) (by omega) (by omega) ?_
  refine Zi (b := 0) (o := 181) (n := 1) (o' := 181 + 1) rfl rfl rfl rfl (by omega) ?_
  refine Zi (b := 0) (o := 181 + 1) (n := 1) (o' := 181 + 2) rfl rfl rfl rfl (by omega) ?_
  refine Zi (b := 0) (o := 181 + 2) (n := 3) (o' := 181 + 5) rfl rfl rfl rfl (by omega) ?_
  refine Zl (p := pt 0 (181 + 5)) (v := .string x2.item.entry.text) rfl rfl rfl (by kernel_rfl) ?_
  refine Zbl (p := .string x2.item.entry.text) (v := Iv (x2.item.entry.text.size : Nat)) rfl rfl rfl rfl ?_
  by_cases h4 : 1000 < (x2.item.entry.text.size : Nat)
  refine Zk (vx := Iv (x2.item.entry.text.size : Nat)) (vy := Iv 1000) rfl rfl (.bool true) rfl rfl (Zet (by omega)) ?_
  refine Zo rfl rfl (.bool true) rfl (Za (Zb (Zz rfl (Zf (Zg (Zc rfl rfl (.bool true) rfl (Za (Zb (Zt (Zbq (Z3 (Zc3 (Zbq (Z3 (Zu ?_)))))))))))))))
  rw [show Zl2 [x1, x2] = true from Zol (by first | exact .inl (by omega) | exact .inr (.inl (by omega)) | exact .inr (.inr (.inl (by omega))) | exact .inr (.inr (.inr (by omega))))]
  exact Zm (v := .bool true) rfl rfl rfl (by kernel_rfl) rfl
  refine Zk (vx := Iv (x2.item.entry.text.size : Nat)) (vy := Iv 1000) rfl rfl (.bool false) rfl rfl (Zej (by omega)) ?_
  refine Zo rfl rfl (.bool false) rfl (Za (Zb (Zv rfl (Z2 (Zab (Zb (Zg (Ze rfl rfl (Iv 1) rfl ?_))))))))
  refine Zk (vx := Iv 1) (vy := Iv 1) rfl rfl (Iv 2) rfl rfl (Zaz (by omega) (by omega) (by omega)) ?_
  refine Zc rfl rfl (Iv 2) rfl (Za (Zjc (Zfy (Zf (Zf (Zg (Ze rfl rfl (Iv 2) rfl (Ze rfl rfl (slv 0 0 2 c) rfl ?_))))))))
  refine Zbl (p := slv 0 0 2 c) (v := Iv 2) rfl rfl rfl rfl ?_
  refine Zk (vx := Iv 2) (vy := Iv 2) rfl rfl (.bool false) rfl rfl (Zcj (by omega)) ?_
  refine Za (Zb (Zv rfl (Zbh (Zar (Za0 (Zaw rfl (Zb (Zf (Zg (Zc rfl rfl (.bool false) rfl (Za (Zb (Zt (Zu ?_))))))))))))))
  rw [show Zl2 [x1, x2] = false from Z2f (by omega) (by omega) (by omega) (by omega)]
  exact Zm (v := .bool false) rfl rfl rfl (by kernel_rfl) rfl
theorem Zr2 (kk : Nat → BitVec 32) (hG : G 0 = some (Zac w32 64 kk)) (hG1 : G 2 = some (Zac u8N 64 dbF)) (master : D) (x : PStep) (n c : Nat) (hn : x.proof.length = n) (hc : n ≤ c) (hb : n ≤ 9223372036854775807) (hx : (-9223372036854775808 ≤ x.index ∧ x.index ≤ 9223372036854775807) ∧ -9223372036854775808 ≤ x.head.head.size ∧ x.head.head.size ≤ 9223372036854775807) (y : PStep) (n' c' : Nat) (hn' : y.proof.length = n') (hc' : n' ≤ c') (hb' : n' ≤ 9223372036854775807) (hy : (-9223372036854775808 ≤ y.index ∧ y.index ≤ 9223372036854775807) ∧ -9223372036854775808 ≤ y.head.head.size ∧ y.head.head.size ≤ 9223372036854775807) : Zae Tryd.prog G 6 [dgV master, mxV ([Iv x.index] ++ (Zh x.item ++ ([slv 0 0 n c] ++ (Zd x.head)))), mxV ([Iv y.index] ++ (Zh y.item ++ ([slv 1 0 n' c'] ++ (Zd y.head))))] [dsR x.proof, dsR y.proof] (.bool true) [dsR x.proof, dsR y.proof] := by
  refine Zbj (fn := Tryd.f6) (nt := 116) rfl rfl rfl rfl ?_
  refine Zaj 10 (H' := [dsR x.proof, dsR y.proof, hole, hole, hole, hole, hole, hole, hole, hole, hole, hole]) rfl ?_
  refine Zf (Zg ?_)
  refine Zbr (v := dgV master) (b := dgB master) (nid := 2) (H' := [dsR x.proof, dsR y.proof, dgB master, hole, hole, hole, hole, hole, hole, hole, hole, hole]) rfl rfl rfl (by kernel_rfl) (by kernel_rfl) ?_
  refine Zbr (v := mxV ([Iv x.index] ++ (Zh x.item ++ ([slv 0 0 n c] ++ (Zd x.head))))) (b := mxB 181 ([Iv x.index] ++ (Zh x.item ++ ([slv 0 0 n c] ++ (Zd x.head))))) (nid := 3) (H' := [dsR x.proof, dsR y.proof, dgB master, mxB 181 ([Iv x.index] ++ (Zh x.item ++ ([slv 0 0 n c] ++ (Zd x.head)))), hole, hole, hole, hole, hole, hole, hole, hole]) rfl rfl rfl (by kernel_rfl) (by kernel_rfl) ?_
  refine Zbr (v := mxV ([Iv y.index] ++ (Zh y.item ++ ([slv 1 0 n' c'] ++ (Zd y.head))))) (b := mxB 181 ([Iv y.index] ++ (Zh y.item ++ ([slv 1 0 n' c'] ++ (Zd y.head))))) (nid := 4) (H' := [dsR x.proof, dsR y.proof, dgB master, mxB 181 ([Iv x.index] ++ (Zh x.item ++ ([slv 0 0 n c] ++ (Zd x.head)))), mxB 181 ([Iv y.index] ++ (Zh y.item ++ ([slv 1 0 n' c'] ++ (Zd y.head)))), hole, hole, hole, hole, hole, hole, hole]) rfl rfl rfl (by kernel_rfl) (by kernel_rfl) ?_
  refine Zc rfl rfl (.bool false) rfl (Za (Zb (Zf (Zf (Zg ?_)))))
  refine Zl (p := pt 3 0) (v := mxV ([Iv x.index] ++ (Zh x.item ++ ([slv 0 0 n c] ++ (Zd x.head))))) rfl rfl rfl (by kernel_rfl) ?_
  refine Zl (p := pt 4 0) (v := mxV ([Iv y.index] ++ (Zh y.item ++ ([slv 1 0 n' c'] ++ (Zd y.head))))) rfl rfl rfl (by kernel_rfl) ?_
  refine Zda (vs := [(0, mxV ([Iv x.index] ++ (Zh x.item ++ ([slv 0 0 n c] ++ (Zd x.head))))), (1, mxV ([Iv y.index] ++ (Zh y.item ++ ([slv 1 0 n' c'] ++ (Zd y.head)))))]) (v := slv 5 0 2 2) (blk := mxW 181 ([Iv x.index] ++ (Zh x.item ++ ([slv 0 0 n c] ++ (Zd x.head ++ ([Iv y.index] ++ (Zh y.item ++ ([slv 1 0 n' c'] ++ (Zd y.head))))))))) (nid := 5) (H' := [dsR x.proof, dsR y.proof, dgB master, mxB 181 ([Iv x.index] ++ (Zh x.item ++ ([slv 0 0 n c] ++ (Zd x.head)))), mxB 181 ([Iv y.index] ++ (Zh y.item ++ ([slv 1 0 n' c'] ++ (Zd y.head)))), mxW 181 ([Iv x.index] ++ (Zh x.item ++ ([slv 0 0 n c] ++ (Zd x.head ++ ([Iv y.index] ++ (Zh y.item ++ ([slv 1 0 n' c'] ++ (Zd y.head)))))))), hole, hole, hole, hole, hole, hole]) rfl rfl rfl (by kernel_rfl) (by kernel_rfl) ?_
  refine Z4 (e := [some (5, 0), some (0, 0), some (1, 0)]) (nid := 0) (Zt7 (G := G) x n c hn (by omega) (by omega) y n' c' hn' (by omega) (by omega) 2 (by omega)) (vals := [slv 5 0 2 2]) (v := .bool (Zl2 [x, y])) (H' := [dsR x.proof, dsR y.proof, dgB master, mxB 181 ([Iv x.index] ++ (Zh x.item ++ ([slv 0 0 n c] ++ (Zd x.head)))), mxB 181 ([Iv y.index] ++ (Zh y.item ++ ([slv 1 0 n' c'] ++ (Zd y.head)))), mxW 181 ([Iv x.index] ++ (Zh x.item ++ ([slv 0 0 n c] ++ (Zd x.head ++ ([Iv y.index] ++ (Zh y.item ++ ([slv 1 0 n' c'] ++ (Zd y.head)))))))), hole, hole, hole, hole, hole, hole]) rfl rfl rfl rfl rfl rfl rfl ⟨⟨⟨rfl, rfl, rfl, by omega, by omega⟩, trivial⟩, ⟨(Zcg rfl rfl (Nat.le_of_eq (by kernel_rfl)) (by kernel_rfl)), (Zer rfl), (Zer rfl), trivial⟩, rfl, rfl, rfl⟩ rfl (by kernel_rfl) ?_
  refine Za (Zb ?_)
  rcases Bool.eq_false_or_eq_true (Zl2 [x, y]) with h1 | h1
  refine Zz (congrArg Value.bool h1) (Zf (Zg (Zc rfl rfl (.bool true) rfl (Za (Zb (Zt (Z3 (Zu ?_))))))))
  exact Zm (v := .bool true) rfl rfl rfl (by kernel_rfl) rfl
  refine Zv (congrArg Value.bool h1) (Z2 (Zb (Zf ?_)))
  have hbp := Zzq (by assumption)
  obtain ⟨hbp1, hbp2, hbp3, hbp4⟩ := hbp
  refine Zg ?_
  refine Zl (p := pt 2 0) (v := dgV master) rfl rfl rfl (by kernel_rfl) ?_
  refine Zl (p := pt 3 0) (v := mxV ([Iv x.index] ++ (Zh x.item ++ ([slv 0 0 n c] ++ (Zd x.head))))) rfl rfl rfl (by kernel_rfl) ?_
  refine Zda (vs := [(0, mxV ([Iv x.index] ++ (Zh x.item ++ ([slv 0 0 n c] ++ (Zd x.head)))))]) (v := slv 6 0 1 1) (blk := mxW 181 ([Iv x.index] ++ (Zh x.item ++ ([slv 0 0 n c] ++ (Zd x.head))))) (nid := 6) (H' := [dsR x.proof, dsR y.proof, dgB master, mxB 181 ([Iv x.index] ++ (Zh x.item ++ ([slv 0 0 n c] ++ (Zd x.head)))), mxB 181 ([Iv y.index] ++ (Zh y.item ++ ([slv 1 0 n' c'] ++ (Zd y.head)))), mxW 181 ([Iv x.index] ++ (Zh x.item ++ ([slv 0 0 n c] ++ (Zd x.head ++ ([Iv y.index] ++ (Zh y.item ++ ([slv 1 0 n' c'] ++ (Zd y.head)))))))), mxW 181 ([Iv x.index] ++ (Zh x.item ++ ([slv 0 0 n c] ++ (Zd x.head)))), hole, hole, hole, hole, hole]) rfl rfl rfl (by kernel_rfl) (by kernel_rfl) ?_
  refine Z4 (e := [some (6, 0), some (0, 0)]) (nid := 0) (Ziu (G := G) kk hG master x n c hn (by omega) (by omega) (by first | omega | (dsimp only; omega)) 1 (by omega)) (vals := [dgV master, slv 6 0 1 1]) (v := Iv (Zcw kk master [x])) (H' := [dsR x.proof, dsR y.proof, dgB master, mxB 181 ([Iv x.index] ++ (Zh x.item ++ ([slv 0 0 n c] ++ (Zd x.head)))), mxB 181 ([Iv y.index] ++ (Zh y.item ++ ([slv 1 0 n' c'] ++ (Zd y.head)))), mxW 181 ([Iv x.index] ++ (Zh x.item ++ ([slv 0 0 n c] ++ (Zd x.head ++ ([Iv y.index] ++ (Zh y.item ++ ([slv 1 0 n' c'] ++ (Zd y.head)))))))), mxW 181 ([Iv x.index] ++ (Zh x.item ++ ([slv 0 0 n c] ++ (Zd x.head)))), hole, hole, hole, hole, hole]) rfl rfl rfl rfl rfl rfl rfl ⟨⟨rfl, ⟨rfl, rfl, rfl, by omega, by omega⟩, trivial⟩, ⟨(Zcg rfl rfl (Nat.le_of_eq (by kernel_rfl)) (by kernel_rfl)), (Zer rfl), trivial⟩, rfl, rfl, rfl⟩ rfl (by kernel_rfl) ?_
  by_cases h2 : (Zcw kk master [x]) = 0
  refine Zk (vx := Iv (Zcw kk master [x])) (vy := Iv 0) rfl rfl (.bool true) rfl rfl (Zdl (by omega)) ?_
  refine Ze rfl rfl (.bool true) rfl ?_
  refine Zl (p := pt 2 0) (v := dgV master) rfl rfl rfl (by kernel_rfl) ?_
  refine Zl (p := pt 4 0) (v := mxV ([Iv y.index] ++ (Zh y.item ++ ([slv 1 0 n' c'] ++ (Zd y.head))))) rfl rfl rfl (by kernel_rfl) ?_
  refine Zda (vs := [(0, mxV ([Iv y.index] ++ (Zh y.item ++ ([slv 1 0 n' c'] ++ (Zd y.head)))))]) (v := slv 7 0 1 1) (blk := mxW 181 ([Iv y.index] ++ (Zh y.item ++ ([slv 1 0 n' c'] ++ (Zd y.head))))) (nid := 7) (H' := [dsR x.proof, dsR y.proof, dgB master, mxB 181 ([Iv x.index] ++ (Zh x.item ++ ([slv 0 0 n c] ++ (Zd x.head)))), mxB 181 ([Iv y.index] ++ (Zh y.item ++ ([slv 1 0 n' c'] ++ (Zd y.head)))), mxW 181 ([Iv x.index] ++ (Zh x.item ++ ([slv 0 0 n c] ++ (Zd x.head ++ ([Iv y.index] ++ (Zh y.item ++ ([slv 1 0 n' c'] ++ (Zd y.head)))))))), mxW 181 ([Iv x.index] ++ (Zh x.item ++ ([slv 0 0 n c] ++ (Zd x.head)))), mxW 181 ([Iv y.index] ++ (Zh y.item ++ ([slv 1 0 n' c'] ++ (Zd y.head)))), hole, hole, hole, hole]) rfl rfl rfl (by kernel_rfl) (by kernel_rfl) ?_
  refine Z4 (e := [some (7, 0), some (1, 0)]) (nid := 0) (Ziu (G := G) kk hG master y n' c' hn' (by omega) (by omega) (by first | omega | (dsimp only; omega)) 1 (by omega)) (vals := [dgV master, slv 7 0 1 1]) (v := Iv (Zcw kk master [y])) (H' := [dsR x.proof, dsR y.proof, dgB master, mxB 181 ([Iv x.index] ++ (Zh x.item ++ ([slv 0 0 n c] ++ (Zd x.head)))), mxB 181 ([Iv y.index] ++ (Zh y.item ++ ([slv 1 0 n' c'] ++ (Zd y.head)))), mxW 181 ([Iv x.index] ++ (Zh x.item ++ ([slv 0 0 n c] ++ (Zd x.head ++ ([Iv y.index] ++ (Zh y.item ++ ([slv 1 0 n' c'] ++ (Zd y.head)))))))), mxW 181 ([Iv x.index] ++ (Zh x.item ++ ([slv 0 0 n c] ++ (Zd x.head)))), mxW 181 ([Iv y.index] ++ (Zh y.item ++ ([slv 1 0 n' c'] ++ (Zd y.head)))), hole, hole, hole, hole]) rfl rfl rfl rfl rfl rfl rfl ⟨⟨rfl, ⟨rfl, rfl, rfl, by omega, by omega⟩, trivial⟩, ⟨(Zcg rfl rfl (Nat.le_of_eq (by kernel_rfl)) (by kernel_rfl)), (Zer rfl), trivial⟩, rfl, rfl, rfl⟩ rfl (by kernel_rfl) ?_
  by_cases h3 : (Zcw kk master [y]) = 0
  refine Zk (vx := Iv (Zcw kk master [y])) (vy := Iv 0) rfl rfl (.bool true) rfl rfl (Zdl (by omega)) ?_
  refine Zo rfl rfl (.bool true) rfl (Zc rfl rfl (.bool true) rfl (Za (Zb (Zf (Zf (Zg (Ze rfl rfl (.bool true) rfl ?_)))))))
  refine Zha (vx := .bool true) rfl rfl (.bool false) rfl Zd0 ?_
  refine Ze rfl rfl (.bool false) rfl ?_
  refine Zi (b := 3) (o := 0) (n := 112) (o' := 112) rfl rfl rfl rfl rfl ?_
  refine Zl (p := pt 3 112) (v := Z0 x.head) rfl rfl rfl (by kernel_rfl) ?_
  refine Zi (b := 4) (o := 0) (n := 112) (o' := 112) rfl rfl rfl rfl rfl ?_
  refine Zl (p := pt 4 112) (v := Z0 y.head) rfl rfl rfl (by kernel_rfl) ?_
  rcases Bool.eq_false_or_eq_true (Zc9 x.head y.head) with h4 | h4
  refine Zk (vx := Z0 x.head) (vy := Z0 y.head) rfl rfl (.bool false) rfl rfl (Eq.trans (Zpw x.head y.head) (by rw [h4] <;> rfl)) ?_
  refine Zo rfl rfl (.bool false) rfl (Ze rfl rfl (.bool false) rfl ?_)
  refine Zi (b := 3) (o := 0) (n := 0) (o' := 0) rfl rfl rfl rfl rfl ?_
  refine Zl (p := pt 3 0) (v := Iv x.index) rfl rfl rfl (by kernel_rfl) ?_
  refine Zi (b := 4) (o := 0) (n := 0) (o' := 0) rfl rfl rfl rfl rfl ?_
  refine Zl (p := pt 4 0) (v := Iv y.index) rfl rfl rfl (by kernel_rfl) ?_
  by_cases h5 : x.index ≠ y.index
  refine Zk (vx := Iv x.index) (vy := Iv y.index) rfl rfl (.bool true) rfl rfl (Zdg (by omega)) ?_
  refine Zo rfl rfl (.bool true) rfl (Ze rfl rfl (.bool true) rfl (Zj rfl rfl (Zj rfl rfl (Zj rfl rfl (Zj rfl rfl (Zj rfl rfl (Zo rfl rfl (.bool true) rfl (Za (Zb (Zz rfl (Zf (Zg ?_))))))))))))
  refine Zq (Zd4 (G := G) kk hG hG1) (vals := []) (res' := .bool true) rfl rfl rfl rfl rfl rfl ?_
  refine Zc rfl rfl (.bool true) rfl (Za (Zb (Zt (Z3 (Zu ?_)))))
  exact Zm (v := .bool true) rfl rfl rfl (by kernel_rfl) rfl
  refine Zk (vx := Iv x.index) (vy := Iv y.index) rfl rfl (.bool false) rfl rfl (Zc5 (by omega)) ?_
  refine Zo rfl rfl (.bool false) rfl (Ze rfl rfl (.bool false) rfl ?_)
  refine Zi (b := 3) (o := 0) (n := 1) (o' := 1) rfl rfl rfl rfl rfl ?_
  refine Zl (p := pt 3 1) (v := Za1 x.item) rfl rfl rfl (by kernel_rfl) ?_
  refine Zi (b := 4) (o := 0) (n := 1) (o' := 1) rfl rfl rfl rfl rfl ?_
  refine Zl (p := pt 4 1) (v := Za1 y.item) rfl rfl rfl (by kernel_rfl) ?_
  rcases Bool.eq_false_or_eq_true (Zk7 x.item y.item) with h6 | h6
  refine Zk (vx := Za1 x.item) (vy := Za1 y.item) rfl rfl (.bool true) rfl rfl (Eq.trans (Zl5 x.item y.item) (by rw [h6] <;> rfl)) ?_
  refine Zo rfl rfl (.bool true) rfl (Za (Zb (Zz rfl (Zf (Zg ?_)))))
  refine Zq (Zd4 (G := G) kk hG hG1) (vals := []) (res' := .bool true) rfl rfl rfl rfl rfl rfl ?_
  refine Zc rfl rfl (.bool true) rfl (Za (Zb (Zt (Z3 (Zu ?_)))))
  exact Zm (v := .bool true) rfl rfl rfl (by kernel_rfl) rfl
  refine Zk (vx := Za1 x.item) (vy := Za1 y.item) rfl rfl (.bool false) rfl rfl (Eq.trans (Zl5 x.item y.item) (by rw [h6] <;> rfl)) ?_
  refine Zo rfl rfl (.bool false) rfl (Za (Zb (Zv rfl (Z2 (Zb (Zf (Zg ?_)))))))
  refine Zi (b := 3) (o := 0) (n := 1) (o' := 1) rfl rfl rfl rfl rfl ?_
  refine Zl (p := pt 3 1) (v := Za1 x.item) rfl rfl rfl (by kernel_rfl) ?_
  refine Zq (Zok (G := G) kk hG x.item) (vals := [Za1 x.item]) (res' := .tuple #[dgV ((Z1 kk x.item).1), Iv ((Z1 kk x.item).2)]) rfl rfl rfl rfl rfl (by kernel_rfl) ?_
  refine Ze rfl rfl (.tuple #[dgV ((Z1 kk x.item).1), Iv ((Z1 kk x.item).2)]) rfl (Zp (vs := #[dgV ((Z1 kk x.item).1), Iv ((Z1 kk x.item).2)]) (v := dgV ((Z1 kk x.item).1)) rfl rfl rfl rfl (Zp (vs := #[dgV ((Z1 kk x.item).1), Iv ((Z1 kk x.item).2)]) (v := Iv ((Z1 kk x.item).2)) rfl rfl rfl rfl ?_))
  refine Z7 (b := dgB dz) (nid := 8) (H' := [dsR x.proof, dsR y.proof, dgB master, mxB 181 ([Iv x.index] ++ (Zh x.item ++ ([slv 0 0 n c] ++ (Zd x.head)))), mxB 181 ([Iv y.index] ++ (Zh y.item ++ ([slv 1 0 n' c'] ++ (Zd y.head)))), mxW 181 ([Iv x.index] ++ (Zh x.item ++ ([slv 0 0 n c] ++ (Zd x.head ++ ([Iv y.index] ++ (Zh y.item ++ ([slv 1 0 n' c'] ++ (Zd y.head)))))))), mxW 181 ([Iv x.index] ++ (Zh x.item ++ ([slv 0 0 n c] ++ (Zd x.head)))), mxW 181 ([Iv y.index] ++ (Zh y.item ++ ([slv 1 0 n' c'] ++ (Zd y.head)))), dgB dz, hole, hole, hole]) rfl rfl (by kernel_rfl) (by kernel_rfl) ?_
  refine Zx (p := pt 8 0) (v := dgV ((Z1 kk x.item).1)) (b := 8) (blk := dgB ((Z1 kk x.item).1)) (H' := [dsR x.proof, dsR y.proof, dgB master, mxB 181 ([Iv x.index] ++ (Zh x.item ++ ([slv 0 0 n c] ++ (Zd x.head)))), mxB 181 ([Iv y.index] ++ (Zh y.item ++ ([slv 1 0 n' c'] ++ (Zd y.head)))), mxW 181 ([Iv x.index] ++ (Zh x.item ++ ([slv 0 0 n c] ++ (Zd x.head ++ ([Iv y.index] ++ (Zh y.item ++ ([slv 1 0 n' c'] ++ (Zd y.head)))))))), mxW 181 ([Iv x.index] ++ (Zh x.item ++ ([slv 0 0 n c] ++ (Zd x.head)))), mxW 181 ([Iv y.index] ++ (Zh y.item ++ ([slv 1 0 n' c'] ++ (Zd y.head)))), dgB ((Z1 kk x.item).1), hole, hole, hole]) rfl rfl rfl (by kernel_rfl) (by kernel_rfl) ?_
  refine Zc rfl rfl (Iv ((Z1 kk x.item).2)) rfl (Za (Zb (Zf (Zg ?_))))
  refine Zi (b := 4) (o := 0) (n := 1) (o' := 1) rfl rfl rfl rfl rfl ?_
  refine Zl (p := pt 4 1) (v := Za1 y.item) rfl rfl rfl (by kernel_rfl) ?_
  refine Zq (Zok (G := G) kk hG y.item) (vals := [Za1 y.item]) (res' := .tuple #[dgV ((Z1 kk y.item).1), Iv ((Z1 kk y.item).2)]) rfl rfl rfl rfl rfl (by kernel_rfl) ?_
  refine Ze rfl rfl (.tuple #[dgV ((Z1 kk y.item).1), Iv ((Z1 kk y.item).2)]) rfl (Zp (vs := #[dgV ((Z1 kk y.item).1), Iv ((Z1 kk y.item).2)]) (v := dgV ((Z1 kk y.item).1)) rfl rfl rfl rfl (Zp (vs := #[dgV ((Z1 kk y.item).1), Iv ((Z1 kk y.item).2)]) (v := Iv ((Z1 kk y.item).2)) rfl rfl rfl rfl ?_))
  refine Z7 (b := dgB dz) (nid := 9) (H' := [dsR x.proof, dsR y.proof, dgB master, mxB 181 ([Iv x.index] ++ (Zh x.item ++ ([slv 0 0 n c] ++ (Zd x.head)))), mxB 181 ([Iv y.index] ++ (Zh y.item ++ ([slv 1 0 n' c'] ++ (Zd y.head)))), mxW 181 ([Iv x.index] ++ (Zh x.item ++ ([slv 0 0 n c] ++ (Zd x.head ++ ([Iv y.index] ++ (Zh y.item ++ ([slv 1 0 n' c'] ++ (Zd y.head)))))))), mxW 181 ([Iv x.index] ++ (Zh x.item ++ ([slv 0 0 n c] ++ (Zd x.head)))), mxW 181 ([Iv y.index] ++ (Zh y.item ++ ([slv 1 0 n' c'] ++ (Zd y.head)))), dgB ((Z1 kk x.item).1), dgB dz, hole, hole]) rfl rfl (by kernel_rfl) (by kernel_rfl) ?_
  refine Zx (p := pt 9 0) (v := dgV ((Z1 kk y.item).1)) (b := 9) (blk := dgB ((Z1 kk y.item).1)) (H' := [dsR x.proof, dsR y.proof, dgB master, mxB 181 ([Iv x.index] ++ (Zh x.item ++ ([slv 0 0 n c] ++ (Zd x.head)))), mxB 181 ([Iv y.index] ++ (Zh y.item ++ ([slv 1 0 n' c'] ++ (Zd y.head)))), mxW 181 ([Iv x.index] ++ (Zh x.item ++ ([slv 0 0 n c] ++ (Zd x.head ++ ([Iv y.index] ++ (Zh y.item ++ ([slv 1 0 n' c'] ++ (Zd y.head)))))))), mxW 181 ([Iv x.index] ++ (Zh x.item ++ ([slv 0 0 n c] ++ (Zd x.head)))), mxW 181 ([Iv y.index] ++ (Zh y.item ++ ([slv 1 0 n' c'] ++ (Zd y.head)))), dgB ((Z1 kk x.item).1), dgB ((Z1 kk y.item).1), hole, hole]) rfl rfl rfl (by kernel_rfl) (by kernel_rfl) ?_
  refine Zc rfl rfl (Iv ((Z1 kk y.item).2)) rfl (Za (Zb (Zf (Zf (Zg (Ze rfl rfl (Iv ((Z1 kk x.item).2)) rfl ?_))))))
  by_cases h7 : ((Z1 kk x.item).2) ≠ 0
  refine Zk (vx := Iv ((Z1 kk x.item).2)) (vy := Iv 0) rfl rfl (.bool true) rfl rfl (Zdg (by omega)) ?_
  refine Ze rfl rfl (.bool true) rfl (Zj rfl rfl (Zj rfl rfl (Zo rfl rfl (.bool true) rfl (Za (Zb (Zz rfl (Zf (Zg (Zc rfl rfl (.bool false) rfl (Za (Zb (Zt (Z3 (Zu ?_))))))))))))))
  exfalso; have hw1 := Zgy (kk := kk) (m := master) (x := x) (by omega); have hw2 := Zgy (kk := kk) (m := master) (x := y) (by omega); omega
  refine Zk (vx := Iv ((Z1 kk x.item).2)) (vy := Iv 0) rfl rfl (.bool false) rfl rfl (Zc5 (by omega)) ?_
  refine Ze rfl rfl (.bool false) rfl (Ze rfl rfl (Iv ((Z1 kk y.item).2)) rfl ?_)
  by_cases h8 : ((Z1 kk y.item).2) ≠ 0
  refine Zk (vx := Iv ((Z1 kk y.item).2)) (vy := Iv 0) rfl rfl (.bool true) rfl rfl (Zdg (by omega)) ?_
  refine Zo rfl rfl (.bool true) rfl (Za (Zb (Zz rfl (Zf (Zg (Zc rfl rfl (.bool false) rfl (Za (Zb (Zt (Z3 (Zu ?_)))))))))))
  exfalso; have hw1 := Zgy (kk := kk) (m := master) (x := x) (by omega); have hw2 := Zgy (kk := kk) (m := master) (x := y) (by omega); omega
  refine Zk (vx := Iv ((Z1 kk y.item).2)) (vy := Iv 0) rfl rfl (.bool false) rfl rfl (Zc5 (by omega)) ?_
  refine Zo rfl rfl (.bool false) rfl (Za (Zb (Zv rfl (Z2 (Zb (Zf (Zf (Zg ?_))))))))
  refine Zl (p := pt 8 0) (v := dgV ((Z1 kk x.item).1)) rfl rfl rfl (by kernel_rfl) ?_
  refine Zl (p := pt 9 0) (v := dgV ((Z1 kk y.item).1)) rfl rfl rfl (by kernel_rfl) ?_
  rcases Bool.eq_false_or_eq_true (Za6 32 ((Z1 kk x.item).1) ((Z1 kk y.item).1)) with h9 | h9
  refine Zk (vx := dgV ((Z1 kk x.item).1)) (vy := dgV ((Z1 kk y.item).1)) rfl rfl (.bool true) rfl rfl (Eq.trans (Zlk (n := 32) (a := (Z1 kk x.item).1) (b := (Z1 kk y.item).1) (by kernel_rfl) rfl rfl rfl) (by rw [h9] <;> rfl)) ?_
  refine Za (Zb (Zz rfl (Zf (Zg ?_))))
  refine Zq (Zd4 (G := G) kk hG hG1) (vals := []) (res' := .bool true) rfl rfl rfl rfl rfl rfl ?_
  refine Zc rfl rfl (.bool true) rfl (Za (Zb (Zt (Z3 (Zu ?_)))))
  exact Zm (v := .bool true) rfl rfl rfl (by kernel_rfl) rfl
  refine Zk (vx := dgV ((Z1 kk x.item).1)) (vy := dgV ((Z1 kk y.item).1)) rfl rfl (.bool false) rfl rfl (Eq.trans (Zlk (n := 32) (a := (Z1 kk x.item).1) (b := (Z1 kk y.item).1) (by kernel_rfl) rfl rfl rfl) (by rw [h9] <;> rfl)) ?_
  refine Za (Zb (Zv rfl (Z2 (Zb (Zf (Zg ?_))))))
  refine Zi (b := 3) (o := 0) (n := 112) (o' := 112) rfl rfl rfl rfl rfl ?_
  refine Zi (b := 3) (o := 112) (n := 0) (o' := 112) rfl rfl rfl rfl rfl ?_
  refine Zi (b := 3) (o := 112) (n := 3) (o' := 115) rfl rfl rfl rfl rfl ?_
  refine Zl (p := pt 3 115) (v := dgV x.head.head.root) rfl rfl rfl (by kernel_rfl) ?_
  refine Zi (b := 3) (o := 0) (n := 112) (o' := 112) rfl rfl rfl rfl rfl ?_
  refine Zi (b := 3) (o := 112) (n := 0) (o' := 112) rfl rfl rfl rfl rfl ?_
  refine Zi (b := 3) (o := 112) (n := 2) (o' := 114) rfl rfl rfl rfl rfl ?_
  refine Zl (p := pt 3 114) (v := Iv x.head.head.size) rfl rfl rfl (by kernel_rfl) ?_
  refine Zi (b := 3) (o := 0) (n := 0) (o' := 0) rfl rfl rfl rfl rfl ?_
  refine Zl (p := pt 3 0) (v := Iv x.index) rfl rfl rfl (by kernel_rfl) ?_
  refine Zl (p := pt 8 0) (v := dgV ((Z1 kk x.item).1)) rfl rfl rfl (by kernel_rfl) ?_
  refine Zi (b := 3) (o := 0) (n := 111) (o' := 111) rfl rfl rfl rfl rfl ?_
  refine Zl (p := pt 3 111) (v := slv 0 0 n c) rfl rfl rfl (by kernel_rfl) ?_
  refine Zl (p := pt 9 0) (v := dgV ((Z1 kk y.item).1)) rfl rfl rfl (by kernel_rfl) ?_
  refine Zi (b := 4) (o := 0) (n := 111) (o' := 111) rfl rfl rfl rfl rfl ?_
  refine Zl (p := pt 4 111) (v := slv 1 0 n' c') rfl rfl rfl (by kernel_rfl) ?_
  obtain ⟨s, t, hcl, hst, hs, ht, hsh⟩ := Zwr (kk := kk) (master := master) (x := x) (y := y) (by omega) (by omega) (by assumption) (by omega) (by assumption)
  refine Z4 (e := [some (0, 0), some (1, 0)]) (nid := 0) ((Z1u (G := G) kk hG x.head.head.root x.head.head.size x.index ((Z1 kk x.item).1) x.proof ((Z1 kk y.item).1) y.proof n n' c c' hn hn' (by omega) (by omega) (by omega) (by omega) (by omega) (by omega) (by omega) (by omega)).res (congrArg Zlm hcl)) (vals := [dgV x.head.head.root, Iv x.head.head.size, Iv x.index, dgV ((Z1 kk x.item).1), slv 0 0 n c, dgV ((Z1 kk y.item).1), slv 1 0 n' c']) (v := .tuple #[.string s, .string t, .bool true]) (H' := [dsR x.proof, dsR y.proof, dgB master, mxB 181 ([Iv x.index] ++ (Zh x.item ++ ([slv 0 0 n c] ++ (Zd x.head)))), mxB 181 ([Iv y.index] ++ (Zh y.item ++ ([slv 1 0 n' c'] ++ (Zd y.head)))), mxW 181 ([Iv x.index] ++ (Zh x.item ++ ([slv 0 0 n c] ++ (Zd x.head ++ ([Iv y.index] ++ (Zh y.item ++ ([slv 1 0 n' c'] ++ (Zd y.head)))))))), mxW 181 ([Iv x.index] ++ (Zh x.item ++ ([slv 0 0 n c] ++ (Zd x.head)))), mxW 181 ([Iv y.index] ++ (Zh y.item ++ ([slv 1 0 n' c'] ++ (Zd y.head)))), dgB ((Z1 kk x.item).1), dgB ((Z1 kk y.item).1), hole, hole]) rfl rfl rfl rfl rfl rfl rfl ⟨⟨rfl, rfl, rfl, rfl, ⟨rfl, rfl, rfl, by first | omega | exact Nat.le_refl _, by first | omega | exact Nat.le_refl _⟩, rfl, ⟨rfl, rfl, rfl, by first | omega | exact Nat.le_refl _, by first | omega | exact Nat.le_refl _⟩, trivial⟩, ⟨(Zer rfl), (Zer rfl), trivial⟩, rfl, rfl, rfl⟩ (by kernel_rfl) (by kernel_rfl) ?_
  refine Ze rfl rfl (.tuple #[.string s, .string t, .bool true]) rfl (Zp (vs := #[.string s, .string t, .bool true]) (v := .string s) rfl rfl rfl rfl (Zp (vs := #[.string s, .string t, .bool true]) (v := .string t) rfl rfl rfl rfl (Zp (vs := #[.string s, .string t, .bool true]) (v := .bool true) rfl rfl rfl rfl (Zc rfl rfl (.string s) rfl (Zc rfl rfl (.string t) rfl (Zc rfl rfl (.bool true) rfl (Za (Zb (Zf (Zg ?_))))))))))
  refine Zq (Zd4 (G := G) kk hG hG1) (vals := []) (res' := .bool true) rfl rfl rfl rfl rfl rfl ?_
  refine Ze rfl rfl (.bool true) rfl (Ze rfl rfl (.bool true) rfl (Zo rfl rfl (.bool true) rfl (Ze rfl rfl (.bool true) rfl (Ze rfl rfl (.string s) rfl (Ze rfl rfl (.string t) rfl ?_)))))
  refine Zk (vx := .string s) (vy := .string t) rfl rfl (.bool true) rfl rfl (Eq.trans (Zr1 _ _) (by rw [hst] <;> rfl)) ?_
  refine Zo rfl rfl (.bool true) rfl (Ze rfl rfl (.bool true) rfl (Ze rfl rfl (.string s) rfl ?_))
  refine Zda (vs := [(0, .string s)]) (v := slv 10 0 1 1) (blk := txB [s]) (nid := 10) (H' := [dsR x.proof, dsR y.proof, dgB master, mxB 181 ([Iv x.index] ++ (Zh x.item ++ ([slv 0 0 n c] ++ (Zd x.head)))), mxB 181 ([Iv y.index] ++ (Zh y.item ++ ([slv 1 0 n' c'] ++ (Zd y.head)))), mxW 181 ([Iv x.index] ++ (Zh x.item ++ ([slv 0 0 n c] ++ (Zd x.head ++ ([Iv y.index] ++ (Zh y.item ++ ([slv 1 0 n' c'] ++ (Zd y.head)))))))), mxW 181 ([Iv x.index] ++ (Zh x.item ++ ([slv 0 0 n c] ++ (Zd x.head)))), mxW 181 ([Iv y.index] ++ (Zh y.item ++ ([slv 1 0 n' c'] ++ (Zd y.head)))), dgB ((Z1 kk x.item).1), dgB ((Z1 kk y.item).1), txB [s], hole]) rfl rfl rfl (by kernel_rfl) (by kernel_rfl) ?_
  refine Z4 (e := [some (10, 0)]) (nid := 0) (Z0y (G := G) kk hG s (by omega)) (vals := [slv 10 0 1 1]) (v := dgV (Zbi kk (bl s))) (H' := [dsR x.proof, dsR y.proof, dgB master, mxB 181 ([Iv x.index] ++ (Zh x.item ++ ([slv 0 0 n c] ++ (Zd x.head)))), mxB 181 ([Iv y.index] ++ (Zh y.item ++ ([slv 1 0 n' c'] ++ (Zd y.head)))), mxW 181 ([Iv x.index] ++ (Zh x.item ++ ([slv 0 0 n c] ++ (Zd x.head ++ ([Iv y.index] ++ (Zh y.item ++ ([slv 1 0 n' c'] ++ (Zd y.head)))))))), mxW 181 ([Iv x.index] ++ (Zh x.item ++ ([slv 0 0 n c] ++ (Zd x.head)))), mxW 181 ([Iv y.index] ++ (Zh y.item ++ ([slv 1 0 n' c'] ++ (Zd y.head)))), dgB ((Z1 kk x.item).1), dgB ((Z1 kk y.item).1), txB [s], hole]) rfl rfl rfl rfl rfl rfl rfl ⟨⟨⟨rfl, rfl, rfl, by omega, by omega⟩, trivial⟩, ⟨(Zoy rfl), trivial⟩, rfl, rfl, rfl⟩ (by kernel_rfl) (by kernel_rfl) ?_
  refine Ze rfl rfl (.string t) rfl ?_
  refine Zda (vs := [(0, .string t)]) (v := slv 11 0 1 1) (blk := txB [t]) (nid := 11) (H' := [dsR x.proof, dsR y.proof, dgB master, mxB 181 ([Iv x.index] ++ (Zh x.item ++ ([slv 0 0 n c] ++ (Zd x.head)))), mxB 181 ([Iv y.index] ++ (Zh y.item ++ ([slv 1 0 n' c'] ++ (Zd y.head)))), mxW 181 ([Iv x.index] ++ (Zh x.item ++ ([slv 0 0 n c] ++ (Zd x.head ++ ([Iv y.index] ++ (Zh y.item ++ ([slv 1 0 n' c'] ++ (Zd y.head)))))))), mxW 181 ([Iv x.index] ++ (Zh x.item ++ ([slv 0 0 n c] ++ (Zd x.head)))), mxW 181 ([Iv y.index] ++ (Zh y.item ++ ([slv 1 0 n' c'] ++ (Zd y.head)))), dgB ((Z1 kk x.item).1), dgB ((Z1 kk y.item).1), txB [s], txB [t]]) rfl rfl rfl (by kernel_rfl) (by kernel_rfl) ?_
  refine Z4 (e := [some (11, 0)]) (nid := 0) (Z0y (G := G) kk hG t (by omega)) (vals := [slv 11 0 1 1]) (v := dgV (Zbi kk (bl t))) (H' := [dsR x.proof, dsR y.proof, dgB master, mxB 181 ([Iv x.index] ++ (Zh x.item ++ ([slv 0 0 n c] ++ (Zd x.head)))), mxB 181 ([Iv y.index] ++ (Zh y.item ++ ([slv 1 0 n' c'] ++ (Zd y.head)))), mxW 181 ([Iv x.index] ++ (Zh x.item ++ ([slv 0 0 n c] ++ (Zd x.head ++ ([Iv y.index] ++ (Zh y.item ++ ([slv 1 0 n' c'] ++ (Zd y.head)))))))), mxW 181 ([Iv x.index] ++ (Zh x.item ++ ([slv 0 0 n c] ++ (Zd x.head)))), mxW 181 ([Iv y.index] ++ (Zh y.item ++ ([slv 1 0 n' c'] ++ (Zd y.head)))), dgB ((Z1 kk x.item).1), dgB ((Z1 kk y.item).1), txB [s], txB [t]]) rfl rfl rfl rfl rfl rfl rfl ⟨⟨⟨rfl, rfl, rfl, by omega, by omega⟩, trivial⟩, ⟨(Zoy rfl), trivial⟩, rfl, rfl, rfl⟩ (by kernel_rfl) (by kernel_rfl) ?_
  refine Zk (vx := dgV (Zbi kk (bl s))) (vy := dgV (Zbi kk (bl t))) rfl rfl (.bool true) rfl rfl (Eq.trans (Zlk (n := 32) (a := (Zbi kk (bl s))) (b := (Zbi kk (bl t))) (by kernel_rfl) rfl rfl rfl) (by rw [hsh] <;> rfl)) ?_
  refine Zo rfl rfl (.bool true) rfl (Zc rfl rfl (.bool true) rfl (Za (Zb (Zt (Zu ?_)))))
  exact Zm (v := .bool true) rfl rfl rfl (by kernel_rfl) rfl
  refine Zk (vx := Z0 x.head) (vy := Z0 y.head) rfl rfl (.bool true) rfl rfl (Eq.trans (Zpw x.head y.head) (by rw [h4] <;> rfl)) ?_
  refine Zo rfl rfl (.bool true) rfl (Ze rfl rfl (.bool true) rfl (Zj rfl rfl (Zj rfl rfl (Zj rfl rfl (Zj rfl rfl (Zj rfl rfl (Zo rfl rfl (.bool true) rfl (Ze rfl rfl (.bool true) rfl (Zj rfl rfl (Zj rfl rfl (Zj rfl rfl (Zj rfl rfl (Zj rfl rfl (Zo rfl rfl (.bool true) rfl (Za (Zb (Zz rfl (Zf (Zg ?_)))))))))))))))))))
  refine Zq (Zd4 (G := G) kk hG hG1) (vals := []) (res' := .bool true) rfl rfl rfl rfl rfl rfl ?_
  refine Zc rfl rfl (.bool true) rfl (Za (Zb (Zt (Z3 (Zu ?_)))))
  exact Zm (v := .bool true) rfl rfl rfl (by kernel_rfl) rfl
  refine Zk (vx := Iv (Zcw kk master [y])) (vy := Iv 0) rfl rfl (.bool false) rfl rfl (Zge (by omega)) ?_
  refine Zo rfl rfl (.bool false) rfl (Zc rfl rfl (.bool false) rfl (Za (Zb (Zf (Zf (Zg (Ze rfl rfl (.bool false) rfl ?_)))))))
  refine Zha (vx := .bool false) rfl rfl (.bool true) rfl Zd0 ?_
  refine Ze rfl rfl (.bool true) rfl (Zj rfl rfl (Zj rfl rfl (Zj rfl rfl (Zj rfl rfl (Zj rfl rfl (Zo rfl rfl (.bool true) rfl (Ze rfl rfl (.bool true) rfl (Zj rfl rfl (Zj rfl rfl (Zj rfl rfl (Zj rfl rfl (Zj rfl rfl (Zo rfl rfl (.bool true) rfl (Ze rfl rfl (.bool true) rfl (Zj rfl rfl (Zj rfl rfl (Zj rfl rfl (Zj rfl rfl (Zj rfl rfl (Zo rfl rfl (.bool true) rfl (Za (Zb (Zz rfl (Zf (Zg ?_)))))))))))))))))))))))))
  refine Zq (Zd4 (G := G) kk hG hG1) (vals := []) (res' := .bool true) rfl rfl rfl rfl rfl rfl ?_
  refine Zc rfl rfl (.bool true) rfl (Za (Zb (Zt (Z3 (Zu ?_)))))
  exact Zm (v := .bool true) rfl rfl rfl (by kernel_rfl) rfl
  refine Zk (vx := Iv (Zcw kk master [x])) (vy := Iv 0) rfl rfl (.bool false) rfl rfl (Zge (by omega)) ?_
  refine Ze rfl rfl (.bool false) rfl (Zj rfl rfl (Zj rfl rfl (Zj rfl rfl (Zj rfl rfl (Zj rfl rfl (Zo rfl rfl (.bool false) rfl (Zc rfl rfl (.bool false) rfl (Za (Zb (Zf (Zf (Zg (Ze rfl rfl (.bool false) rfl ?_)))))))))))))
  refine Zha (vx := .bool false) rfl rfl (.bool true) rfl Zd0 ?_
  refine Ze rfl rfl (.bool true) rfl (Zj rfl rfl (Zj rfl rfl (Zj rfl rfl (Zj rfl rfl (Zj rfl rfl (Zo rfl rfl (.bool true) rfl (Ze rfl rfl (.bool true) rfl (Zj rfl rfl (Zj rfl rfl (Zj rfl rfl (Zj rfl rfl (Zj rfl rfl (Zo rfl rfl (.bool true) rfl (Ze rfl rfl (.bool true) rfl (Zj rfl rfl (Zj rfl rfl (Zj rfl rfl (Zj rfl rfl (Zj rfl rfl (Zo rfl rfl (.bool true) rfl (Za (Zb (Zz rfl (Zf (Zg ?_)))))))))))))))))))))))))
  refine Zq (Zd4 (G := G) kk hG hG1) (vals := []) (res' := .bool true) rfl rfl rfl rfl rfl rfl ?_
  refine Zc rfl rfl (.bool true) rfl (Za (Zb (Zt (Z3 (Zu ?_)))))
  exact Zm (v := .bool true) rfl rfl rfl (by kernel_rfl) rfl
end Go.Flat
