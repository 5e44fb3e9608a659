/- Walks. -/
import Derived.Test.YtoheeojjdpdljaaDoorH33
import Derived.Test.YtoheeojjdpdljaaDoorH30
set_option linter.unusedVariables false
set_option linter.unusedSimpArgs false
set_option maxRecDepth 20000
namespace Go.Flat
open Go.Proofs
variable {G : Glob}
theorem Zfz {l : Bs} {n : Nat} (h : (Ze l n).2 = true) : (Ze l n).1.length = n ∧ ofF l = (true, (Ze l n).1) := by
 unfold Ze at h ⊢
 split at h
 ·rename_i q; rw [if_pos q]; exact ⟨q.2, Prod.ext q.1 rfl⟩
 ·exact absurd h (by decide)
theorem Zma {l : Bs} {ls : List ByteArray} (h : ofF l = (true, ls)) : Ze l ls.length = (ls, true) := by
 unfold Ze; rw [h]; exact if_pos ⟨rfl, rfl⟩
theorem Zmz {s : ByteArray} (h : (Zq s).2 = 0) : vR s = (Zq s).1 := if_neg fun q => q h
theorem Ziq {s : ByteArray} (h : 0 ≤ vR s) : Zq s = (vR s, 0) := by
 unfold vR at h ⊢
 split at h
 ·omega
 ·rename_i q; rw [if_neg q]; exact Prod.ext rfl (Decidable.byContradiction fun r => q r)
theorem Zvl {s : ByteArray} (h : (Zav s).2 = true) : s.size = 32 ∧ (Zav s).1 = cpD s := by
 unfold Zav at h ⊢
 split at h
 ·rename_i q; rw [if_pos q]; exact ⟨q, rfl⟩
 ·exact absurd h (by decide)
theorem Zzh {l : Bs} (h : (Zax l).2 ≠ 0) : Zax l = (⟨0, 0, 0, dz, 0⟩, 70) := by
 unfold Zax at h ⊢
 generalize ofF l = p at h ⊢
 split at h
 ·rename_i q1
  rw [if_pos q1]
  split at h
  ·rename_i q2; rw [if_pos q2]
  ·rename_i q2
   rw [if_neg q2]
   split at h
   ·rename_i q3; rw [if_pos q3]
   ·exact absurd rfl h
 ·rename_i q1; rw [if_neg q1]
def Ztj (ls : List ByteArray) : Head := ⟨vR (ls.getD 0 ⟨#[]⟩), vR (ls.getD 1 ⟨#[]⟩), vR (ls.getD 2 ⟨#[]⟩), (Zav (ls.getD 3 ⟨#[]⟩)).1, vR (ls.getD 4 ⟨#[]⟩)⟩
theorem Z1q {l : Bs} (h1 : (Ze l 5).2 = true) (h2 : (Zav ((Ze l 5).1.getD 3 ⟨#[]⟩)).2 = true) (h3 : Zbt (Ztj (Ze l 5).1)) : Zax l = (Ztj (Ze l 5).1, 0) := by
 obtain ⟨q1, q2⟩ := Zfz h1
 generalize (Ze l 5).1 = ls at *
 match ls, q1 with
 | [a, b, c, d, f], _ =>
  obtain ⟨d1, d2⟩ := Zvl h2
  have h3' := h3
  unfold Ztj at h3 ⊢
  have r1 : 1 ≤ vR a ∧ vR a ≤ 5 := h3.1
  have r2 : 1 ≤ vR b ∧ vR b ≤ 900000000 := h3.2.1
  have r3 : 0 ≤ vR c ∧ vR c ≤ 100000 := h3.2.2.1
  have r4 : 0 ≤ vR f ∧ vR f ≤ 900000000 := h3.2.2.2
  have v0 := Ziq (s := a) (by omega)
  have v1 := Ziq (s := b) (by omega)
  have v2 := Ziq (s := c) (by omega)
  have v4 := Ziq (s := f) (by omega)
  rw [show (Zav ([a, b, c, d, f].getD 3 ⟨#[]⟩)).1 = cpD d from d2]
  exact Zri q2 v0 v1 v2 d1 v4 (by have e2 : (Zav d).1 = cpD d := d2; rw [← e2]; exact h3')
theorem Zf6 {l : Bs} (h : (Ze l 5).2 = false ∨ (Zav ((Ze l 5).1.getD 3 ⟨#[]⟩)).2 = false ∨ ¬ Zbt (Ztj (Ze l 5).1)) : Zax l = (⟨0, 0, 0, dz, 0⟩, 70) := by
 refine Zzh fun e => ?_
 obtain ⟨a, b, c, d, f, h0, h1, h2, h3, h4, h5, h6, h7⟩ := Zu7 e
 have hp := Zma h0
 rw [show [a, b, c, d, f].length = 5 from rfl] at hp
 rw [hp] at h
 have hd : Zav d = (cpD d, true) := if_pos h4
 have e5 : Ztj [a, b, c, d, f] = (Zax l).1 := by
  rw [h6]; show Head.mk (vR a) (vR b) (vR c) (Zav d).1 (vR f) = _
  rw [Zmz h1, Zmz h2, Zmz h3, Zmz h5, hd]
 rcases h with h | h | h
 ·exact absurd (show true = false from h) (by decide)
 ·rw [show ([a, b, c, d, f], true).1.getD 3 ⟨#[]⟩ = d from rfl, hd] at h; exact absurd (show true = false from h) (by decide)
 ·exact h (by rw [e5]; exact h7)
theorem Zkm (l : Bs) (c n : Nat) (hc : l.length ≤ c) (hb : l.length ≤ 1099511627776) (hcc : c ≤ 9223372036854775807) (hn9 : n ≤ 1000) : Zao Tryd.prog G 50 [slv 0 0 l.length c, Iv (n : Nat)] [rdB l] (.tuple #[slv 1 0 (Ze l n).1.length (Ze l n).1.length, .bool (Ze l n).2]) [rdB l, txB (Ze l n).1] := by
  refine Zbv (fn := Tryd.f50) (nt := 45) rfl rfl rfl rfl ?_
  refine Zat 2 (H' := [rdB l, hole, hole]) rfl ?_
  refine Zg (Zi (Zb rfl rfl (.slice none 0 0) rfl (Zb rfl rfl (.bool false) rfl (Za (Zc (Zg (Zi (Zd rfl rfl (slv 0 0 l.length c) rfl ?_))))))))
  have hrl := Zna l
  refine Zad (e := [some (0, 0)]) (nid := 1) (Zs7 (G := G) l c hc hb hcc) (vals := [slv 0 0 l.length c]) (v := .tuple #[slv 1 0 ((Zh l).1.length) ((Zh l).1.length), Iv ((Zh l).2)]) (H' := [rdB l, rwB cFd ((Zh l).1), hole]) rfl rfl rfl rfl rfl rfl rfl ⟨⟨⟨rfl, rfl, rfl, by omega, by omega⟩, trivial⟩, ⟨(Zdk rfl), trivial⟩, rfl, rfl, rfl⟩ (by kernel_rfl) (by kernel_rfl) ?_
  refine Zd rfl rfl (.tuple #[slv 1 0 ((Zh l).1.length) ((Zh l).1.length), Iv ((Zh l).2)]) rfl (Zt (vs := #[slv 1 0 ((Zh l).1.length) ((Zh l).1.length), Iv ((Zh l).2)]) (v := slv 1 0 ((Zh l).1.length) ((Zh l).1.length)) rfl rfl rfl rfl (Zt (vs := #[slv 1 0 ((Zh l).1.length) ((Zh l).1.length), Iv ((Zh l).2)]) (v := Iv ((Zh l).2)) rfl rfl rfl rfl (Zb rfl rfl (slv 1 0 ((Zh l).1.length) ((Zh l).1.length)) rfl (Zb rfl rfl (Iv ((Zh l).2)) rfl (Za (Zc (Zg (Zg (Zi (Zd rfl rfl (Iv ((Zh l).2)) rfl ?_))))))))))
  by_cases h1 : ((Zh l).2) ≠ 0
  refine Zn (vx := Iv ((Zh l).2)) (vy := Iv 0) rfl rfl (.bool true) rfl rfl (Zeg (by omega)) ?_
  refine Zd rfl rfl (.bool true) rfl (Zf rfl rfl (Zf rfl rfl (Zf rfl rfl (Zf rfl rfl (Zk rfl rfl (.bool true) rfl (Za (Zc (Z0 rfl (Zg (Zi (Zb rfl rfl (.slice none 0 0) rfl (Zb rfl rfl (.bool false) rfl (Za (Zc ?_))))))))))))))
  refine Zcw (Zcq.nilTmp (i := 4) (b := 2) true 1 rfl (by decide) rfl) ?_
  refine Zv (Z5 (Zu ?_))
  rw [show Ze l n = ([], false) from by first | exact Zm9 (by first | (left; omega) | (right; omega)) | exact Zng hR (by omega) (by omega)]
  exact Za5 [0, 2] (v := .tuple #[slv 2 0 0 0, .bool false]) rfl (by kernel_rfl) rfl rfl (by decide) (by simp [Zac, rdB, txB]) ⟨⟨rfl, rfl, rfl, by first | omega | exact Nat.le_refl _ | exact Nat.zero_le _ | (dsimp only; omega), by first | omega | exact Nat.le_refl _ | exact Nat.zero_le _ | (dsimp only; omega)⟩, rfl, trivial⟩
  refine Zn (vx := Iv ((Zh l).2)) (vy := Iv 0) rfl rfl (.bool false) rfl rfl (Zds (by omega)) ?_
  refine Zd rfl rfl (.bool false) rfl (Zd rfl rfl (slv 1 0 ((Zh l).1.length) ((Zh l).1.length)) rfl ?_)
  refine Zb7 (p := slv 1 0 ((Zh l).1.length) ((Zh l).1.length)) (v := Iv ((((Zh l).1.length) : Nat) : Int)) rfl rfl rfl rfl ?_
  refine Zd rfl rfl (Iv (n : Nat)) rfl ?_
  by_cases h2 : ((((Zh l).1.length) : Nat) : Int) ≠ (n : Nat)
  refine Zn (vx := Iv ((((Zh l).1.length) : Nat) : Int)) (vy := Iv (n : Nat)) rfl rfl (.bool true) rfl rfl (Zeg (by omega)) ?_
  refine Zk rfl rfl (.bool true) rfl (Za (Zc (Z0 rfl (Zg (Zi (Zb rfl rfl (.slice none 0 0) rfl (Zb rfl rfl (.bool false) rfl (Za (Zc ?_)))))))))
  refine Zcw (Zcq.nilTmp (i := 4) (b := 2) true 1 rfl (by decide) rfl) ?_
  refine Zv (Z5 (Zu ?_))
  rw [show Ze l n = ([], false) from by first | exact Zm9 (by first | (left; omega) | (right; omega)) | exact Zng hR (by omega) (by omega)]
  exact Za5 [0, 2] (v := .tuple #[slv 2 0 0 0, .bool false]) rfl (by kernel_rfl) rfl rfl (by decide) (by simp [Zac, rdB, txB]) ⟨⟨rfl, rfl, rfl, by first | omega | exact Nat.le_refl _ | exact Nat.zero_le _ | (dsimp only; omega), by first | omega | exact Nat.le_refl _ | exact Nat.zero_le _ | (dsimp only; omega)⟩, rfl, trivial⟩
  refine Zn (vx := Iv ((((Zh l).1.length) : Nat) : Int)) (vy := Iv (n : Nat)) rfl rfl (.bool false) rfl rfl (Zds (by omega)) ?_
  refine Zk rfl rfl (.bool false) rfl (Za (Zc (Zx rfl (Zai (Zc (Zg (Zi (Zb rfl rfl (.slice none 0 0) rfl (Za (Zc (Zg (Zg ?_))))))))))))
  refine Zcw (Zcq.nilTmp (i := 8) (b := 2) true 1 rfl (by decide) rfl) ?_
  refine Zi (Zb rfl rfl (Iv 0) rfl (Za (Zc (Zap ?_))))
  refine Zb8 (fun x : Nat × Nat × (List ByteArray) => match x with | (i, q, acc) => [slv 0 0 l.length c, Iv (n : Nat), dead, dead, dead, dead, slv 1 0 ((Zh l).1.length) ((Zh l).1.length), Iv ((Zh l).2), slv 2 0 q q, Iv (i : Nat), dead, dead, dead, dead, dead, dead, dead, dead, dead, dead, dead, dead, dead]) (fun x : Nat × Nat × (List ByteArray) => match x with | (i, q, acc) => [rdB l, rwB cFd ((Zh l).1), txB acc]) (fun x : Nat × Nat × (List ByteArray) => match x with | (i, q, acc) => ofL ((Zh l).1.drop i) i true acc = ofF l ∧ acc.length = q ∧ q = i ∧ i ≤ n) (fun x : Nat × Nat × (List ByteArray) => match x with | (i, q, acc) => n - i) (0, 0, []) ⟨by unfold ofF; rw [decide_eq_true (by omega)]; rfl, rfl, rfl, by omega⟩ ?_ ?_
  · refine Zaq (n := 3) rfl ?_ (by kernel_rfl) (by kernel_rfl)
    repeat (first | exact trivial | refine ⟨.inl rfl, ?_⟩ | refine ⟨.inr ⟨rfl, rfl⟩, ?_⟩ | refine ⟨.inr ⟨congrArg (Value.int .i64) (by first | omega | (dsimp only; omega)), rfl⟩, ?_⟩)
  rintro ⟨i, q, acc⟩ ⟨hR, ha, hq, hi⟩
  dsimp only at *
  refine Zat 3 (H' := [rdB l, rwB cFd ((Zh l).1), txB acc, hole, hole, hole]) rfl ?_
  refine Zg (Zg (Zi (Zd rfl rfl (Iv (i : Nat)) rfl (Zd rfl rfl (Iv (n : Nat)) rfl ?_))))
  by_cases h3 : (i : Nat) < (n : Nat)
  refine Zn (vx := Iv (i : Nat)) (vy := Iv (n : Nat)) rfl rfl (.bool true) rfl rfl (Zdt (by omega)) ?_
  refine Za (Zc (Z0 rfl (Zai (Zc (Zg (Zap (Zg (Zg (Zi (Zd rfl rfl (slv 1 0 ((Zh l).1.length) ((Zh l).1.length)) rfl (Zd rfl rfl (Iv (i : Nat)) rfl ?_)))))))))))
  refine Zbk (b := 1) (o := 0) (j := i * 2) (m := ((Zh l).1.length)) (c := ((Zh l).1.length)) (sz := 2) (i := (i : Nat)) (k := .i64) rfl rfl rfl rfl rfl (by omega) (by omega) (by omega) ?_
  refine Zj (b := 1) (o := i * 2) (n := 0) (o' := i * 2) rfl rfl rfl rfl (by omega) ?_
  refine Zo (p := pt 1 (i * 2)) (v := Iv ((((Zh l).1).getD i default).tag)) rfl rfl rfl (Zev cFd (l := (Zh l).1) (i := i) (k := 0) (m := 2) rfl rfl rfl rfl (by omega) (by omega) (by kernel_rfl) rfl) ?_
  refine Zd rfl rfl (Iv (i : Nat)) rfl ?_
  refine Zn (vx := Iv (i : Nat)) (vy := Iv 1) rfl rfl (Iv ((i : Nat) + 1)) rfl rfl (Za7 (by omega) (by omega) (by omega)) ?_
  by_cases h4 : ((((Zh l).1).getD i default).tag) ≠ (i : Nat) + 1
  refine Zn (vx := Iv ((((Zh l).1).getD i default).tag)) (vy := Iv ((i : Nat) + 1)) rfl rfl (.bool true) rfl rfl (Zeg (by omega)) ?_
  refine Za (Zc (Z0 rfl (Zg (Zi (Zb rfl rfl (.slice none 0 0) rfl (Zb rfl rfl (.bool false) rfl (Za (Zc ?_))))))))
  refine Zcw (Zcq.nilTmp (i := 4) (b := 3) true 1 rfl (by decide) rfl) ?_
  refine Zv (Z5 (Zbb (Z5 (Zfm (Zbb (Z5 (Zu ?_)))))))
  rw [show Ze l n = ([], false) from by first | exact Zm9 (by first | (left; omega) | (right; omega)) | exact Zng hR (by omega) (by omega)]
  exact Za5 [0, 3] (v := .tuple #[slv 3 0 0 0, .bool false]) rfl (by kernel_rfl) rfl rfl (by decide) (by simp [Zac, rdB, txB]) ⟨⟨rfl, rfl, rfl, by first | omega | exact Nat.le_refl _ | exact Nat.zero_le _ | (dsimp only; omega), by first | omega | exact Nat.le_refl _ | exact Nat.zero_le _ | (dsimp only; omega)⟩, rfl, trivial⟩
  refine Zn (vx := Iv ((((Zh l).1).getD i default).tag)) (vy := Iv ((i : Nat) + 1)) rfl rfl (.bool false) rfl rfl (Zds (by omega)) ?_
  refine Za (Zc (Zx rfl (Zai (Zc (Zi (Zd rfl rfl (slv 2 0 q q) rfl (Zd rfl rfl (slv 1 0 ((Zh l).1.length) ((Zh l).1.length)) rfl (Zd rfl rfl (Iv (i : Nat)) rfl ?_))))))))
  refine Zbk (b := 1) (o := 0) (j := i * 2) (m := ((Zh l).1.length)) (c := ((Zh l).1.length)) (sz := 2) (i := (i : Nat)) (k := .i64) rfl rfl rfl rfl rfl (by omega) (by omega) (by omega) ?_
  refine Zj (b := 1) (o := i * 2) (n := 1) (o' := i * 2 + 1) rfl rfl rfl rfl (by omega) ?_
  refine Zo (p := pt 1 (i * 2 + 1)) (v := .string ((((Zh l).1).getD i default).data)) rfl rfl rfl (Zev cFd (l := (Zh l).1) (i := i) (k := 1) (m := 2) rfl rfl rfl rfl (by omega) (by omega) (by kernel_rfl) rfl) ?_
  refine Zd5 (vs := [(0, .string ((((Zh l).1).getD i default).data))]) (v := slv 3 0 1 1) (blk := txB [(((Zh l).1).getD i default).data]) (nid := 3) (H' := [rdB l, rwB cFd ((Zh l).1), txB acc, txB [(((Zh l).1).getD i default).data], hole, hole]) rfl rfl rfl (by kernel_rfl) (by kernel_rfl) ?_
  have hl2 : (acc ++ [(((Zh l).1).getD i default).data]).length = q + 1 := by have := ha; have := (rfl : _ = 1); first | (rw [List.length_append]; omega) | (simp; omega) | simp
  refine Zbz (p := slv 2 0 q q) (q := slv 3 0 1 1) (v := slv 2 0 (q + 1) (q + 1)) (b := 2) (blk := txB (acc ++ [(((Zh l).1).getD i default).data])) (H' := [rdB l, rwB cFd ((Zh l).1), txB (acc ++ [(((Zh l).1).getD i default).data]), txB [(((Zh l).1).getD i default).data], hole, hole]) rfl rfl rfl (.inl ⟨_, rfl⟩) rfl rfl (Zhf (by_ := 16) (k := 1) (n' := q + 1) (ms := [(((Zh l).1).getD i default).data]) rfl rfl (by kernel_rfl) rfl (by have := ha; omega) (by omega) (by decide) (by omega)) rfl (by kernel_rfl) ?_
  refine Zb rfl rfl (slv 2 0 (q + 1) (q + 1)) rfl (Za (Z1 (Zc (Zi (Zd rfl rfl (Iv (i : Nat)) rfl ?_)))))
  refine Zn (vx := Iv (i : Nat)) (vy := Iv 1) rfl rfl (Iv ((i : Nat) + 1)) rfl rfl (Za7 (by omega) (by omega) (by omega)) ?_
  refine Zb rfl rfl (Iv ((i : Nat) + 1)) rfl (Za ?_)
  refine Zau ⟨((i + 1), (q + 1), (acc ++ [(((Zh l).1).getD i default).data])), ⟨Zhy hR (by omega) (by rw [Bool.true_and]; exact decide_eq_true (by omega)), by rw [List.length_append, ha]; rfl, by dsimp only; omega, by dsimp only; omega⟩, by show n - (i + 1) < n - i; omega, ?_⟩
  refine Zaq (n := 3) rfl ?_ (by kernel_rfl) (by kernel_rfl)
  repeat (first | exact trivial | refine ⟨.inl rfl, ?_⟩ | refine ⟨.inr ⟨rfl, rfl⟩, ?_⟩ | refine ⟨.inr ⟨congrArg (Value.int .i64) (by first | omega | (dsimp only; omega)), rfl⟩, ?_⟩)
  refine Zn (vx := Iv (i : Nat)) (vy := Iv (n : Nat)) rfl rfl (.bool false) rfl rfl (Zdh (by omega)) ?_
  refine Za (Zc (Zx rfl (Zce (Zbj (Zbo (Zbp rfl (Zc (Zg (Zi (Zd rfl rfl (slv 2 0 q q) rfl (Zb rfl rfl (slv 2 0 q q) rfl (Zb rfl rfl (.bool true) rfl (Za (Zc (Zv (Zu ?_))))))))))))))))
  rw [Zvp (n := n) hR (by omega) (by omega)]
  rw [show (acc, true).1.length = q from ha]
  exact Za5 [0, 2] (v := .tuple #[slv 2 0 q q, .bool true]) rfl (by kernel_rfl) rfl rfl (by decide) (by simp [Zac, rdB, txB]) ⟨⟨rfl, rfl, rfl, by first | omega | exact Nat.le_refl _ | exact Nat.zero_le _ | (dsimp only; omega), by first | omega | exact Nat.le_refl _ | exact Nat.zero_le _ | (dsimp only; omega)⟩, rfl, trivial⟩
theorem Z0r (l : Bs) (c : Nat) (hc : l.length ≤ c) (hb : l.length ≤ 1099511627776) (hcc : c ≤ 9223372036854775807) : Zao Tryd.prog G 96 [slv 0 0 l.length c] [rdB l] (.tuple #[Zbf (Zax l).1, Iv (Zax l).2]) [rdB l] := by
  refine Zbv (fn := Tryd.f96) (nt := 50) rfl rfl rfl rfl ?_
  refine Zat 4 (H' := [rdB l, hole, hole, hole, hole]) rfl ?_
  refine Zg (Zi ?_)
  refine Zae (b := bxB 36 (Zan (⟨0, 0, 0, dz, 0⟩ : Head))) (nid := 1) (H' := [rdB l, bxB 36 (Zan (⟨0, 0, 0, dz, 0⟩ : Head)), hole, hole, hole]) rfl rfl (by kernel_rfl) (by kernel_rfl) ?_
  refine Zb rfl rfl (Iv 0) rfl (Za (Zc (Zg (Zi (Zd rfl rfl (slv 0 0 l.length c) rfl ?_)))))
  refine Zad (e := [some (0, 0)]) (nid := 2) (Zkm (G := G) l c 5 hc hb hcc (by omega)) (vals := [slv 0 0 l.length c, Iv 5]) (v := .tuple #[slv 2 0 ((Ze l 5).1.length) ((Ze l 5).1.length), .bool ((Ze l 5).2)]) (H' := [rdB l, bxB 36 (Zan (⟨0, 0, 0, dz, 0⟩ : Head)), txB ((Ze l 5).1), hole, hole]) rfl rfl rfl rfl rfl rfl rfl ⟨⟨⟨rfl, rfl, rfl, by omega, by omega⟩, rfl, trivial⟩, ⟨(Zdk rfl), trivial⟩, rfl, rfl, rfl⟩ (by kernel_rfl) (by kernel_rfl) ?_
  refine Zd rfl rfl (.tuple #[slv 2 0 ((Ze l 5).1.length) ((Ze l 5).1.length), .bool ((Ze l 5).2)]) rfl (Zt (vs := #[slv 2 0 ((Ze l 5).1.length) ((Ze l 5).1.length), .bool ((Ze l 5).2)]) (v := slv 2 0 ((Ze l 5).1.length) ((Ze l 5).1.length)) rfl rfl rfl rfl (Zt (vs := #[slv 2 0 ((Ze l 5).1.length) ((Ze l 5).1.length), .bool ((Ze l 5).2)]) (v := .bool ((Ze l 5).2)) rfl rfl rfl rfl (Zb rfl rfl (slv 2 0 ((Ze l 5).1.length) ((Ze l 5).1.length)) rfl (Zb rfl rfl (.bool ((Ze l 5).2)) rfl (Za (Zc (Zg (Zg (Zi (Zd rfl rfl (.bool ((Ze l 5).2)) rfl ?_))))))))))
  rcases Bool.eq_false_or_eq_true ((Ze l 5).2) with h1 | h1
  refine Zef (vx := .bool ((Ze l 5).2)) rfl rfl (.bool false) rfl (Eq.trans Zb1 (congrArg (fun b => some (Value.bool !b)) h1)) ?_
  refine Za (Zc (Zx rfl (Zai (Zc (Zg ?_)))))
  have hp5 := (Zfz (l := l) (n := 5) (by assumption)).1
  refine Zi (Zd rfl rfl (slv 2 0 ((Ze l 5).1.length) ((Ze l 5).1.length)) rfl ?_)
  refine Zbk (b := 2) (o := 0) (j := 3) (m := ((Ze l 5).1.length)) (c := ((Ze l 5).1.length)) (sz := 1) (i := 3) (k := .i64) rfl rfl rfl rfl rfl (by omega) (by omega) (by omega) ?_
  refine Zo (p := pt 2 3) (v := .string (((Ze l 5).1).getD 3 ⟨#[]⟩)) rfl rfl rfl (Zdv rfl rfl rfl (by omega)) ?_
  refine Zs (Zld (G := G) (((Ze l 5).1).getD 3 ⟨#[]⟩)) (vals := [.string (((Ze l 5).1).getD 3 ⟨#[]⟩)]) (res' := .tuple #[dgV ((Zav (((Ze l 5).1).getD 3 ⟨#[]⟩)).1), .bool ((Zav (((Ze l 5).1).getD 3 ⟨#[]⟩)).2)]) rfl rfl rfl rfl rfl (by kernel_rfl) ?_
  refine Zd rfl rfl (.tuple #[dgV ((Zav (((Ze l 5).1).getD 3 ⟨#[]⟩)).1), .bool ((Zav (((Ze l 5).1).getD 3 ⟨#[]⟩)).2)]) rfl (Zt (vs := #[dgV ((Zav (((Ze l 5).1).getD 3 ⟨#[]⟩)).1), .bool ((Zav (((Ze l 5).1).getD 3 ⟨#[]⟩)).2)]) (v := dgV ((Zav (((Ze l 5).1).getD 3 ⟨#[]⟩)).1)) rfl rfl rfl rfl (Zt (vs := #[dgV ((Zav (((Ze l 5).1).getD 3 ⟨#[]⟩)).1), .bool ((Zav (((Ze l 5).1).getD 3 ⟨#[]⟩)).2)]) (v := .bool ((Zav (((Ze l 5).1).getD 3 ⟨#[]⟩)).2)) rfl rfl rfl rfl ?_))
  refine Zae (b := dgB dz) (nid := 3) (H' := [rdB l, bxB 36 (Zan (⟨0, 0, 0, dz, 0⟩ : Head)), txB ((Ze l 5).1), dgB dz, hole]) rfl rfl (by kernel_rfl) (by kernel_rfl) ?_
  refine Zr (p := pt 3 0) (v := dgV ((Zav (((Ze l 5).1).getD 3 ⟨#[]⟩)).1)) (b := 3) (blk := dgB ((Zav (((Ze l 5).1).getD 3 ⟨#[]⟩)).1)) (H' := [rdB l, bxB 36 (Zan (⟨0, 0, 0, dz, 0⟩ : Head)), txB ((Ze l 5).1), dgB ((Zav (((Ze l 5).1).getD 3 ⟨#[]⟩)).1), hole]) rfl rfl rfl (by kernel_rfl) (by kernel_rfl) ?_
  refine Zb rfl rfl (.bool ((Zav (((Ze l 5).1).getD 3 ⟨#[]⟩)).2)) rfl (Za (Zc (Zg ?_)))
  refine Zfv (by kernel_rfl) ?_
  refine Zd rfl rfl (slv 2 0 ((Ze l 5).1.length) ((Ze l 5).1.length)) rfl ?_
  refine Zbk (b := 2) (o := 0) (j := 0) (m := ((Ze l 5).1.length)) (c := ((Ze l 5).1.length)) (sz := 1) (i := 0) (k := .i64) rfl rfl rfl rfl rfl (by omega) (by omega) (by omega) ?_
  refine Zo (p := pt 2 0) (v := .string (((Ze l 5).1).getD 0 ⟨#[]⟩)) rfl rfl rfl (Zdv rfl rfl rfl (by omega)) ?_
  refine Zs (Zfg (G := G) (((Ze l 5).1).getD 0 ⟨#[]⟩)) (vals := [.string (((Ze l 5).1).getD 0 ⟨#[]⟩)]) (res' := Iv (vR (((Ze l 5).1).getD 0 ⟨#[]⟩))) rfl rfl rfl rfl rfl rfl ?_
  refine Zd rfl rfl (slv 2 0 ((Ze l 5).1.length) ((Ze l 5).1.length)) rfl ?_
  refine Zbk (b := 2) (o := 0) (j := 1) (m := ((Ze l 5).1.length)) (c := ((Ze l 5).1.length)) (sz := 1) (i := 1) (k := .i64) rfl rfl rfl rfl rfl (by omega) (by omega) (by omega) ?_
  refine Zo (p := pt 2 1) (v := .string (((Ze l 5).1).getD 1 ⟨#[]⟩)) rfl rfl rfl (Zdv rfl rfl rfl (by omega)) ?_
  refine Zs (Zfg (G := G) (((Ze l 5).1).getD 1 ⟨#[]⟩)) (vals := [.string (((Ze l 5).1).getD 1 ⟨#[]⟩)]) (res' := Iv (vR (((Ze l 5).1).getD 1 ⟨#[]⟩))) rfl rfl rfl rfl rfl rfl ?_
  refine Zd rfl rfl (slv 2 0 ((Ze l 5).1.length) ((Ze l 5).1.length)) rfl ?_
  refine Zbk (b := 2) (o := 0) (j := 2) (m := ((Ze l 5).1.length)) (c := ((Ze l 5).1.length)) (sz := 1) (i := 2) (k := .i64) rfl rfl rfl rfl rfl (by omega) (by omega) (by omega) ?_
  refine Zo (p := pt 2 2) (v := .string (((Ze l 5).1).getD 2 ⟨#[]⟩)) rfl rfl rfl (Zdv rfl rfl rfl (by omega)) ?_
  refine Zs (Zfg (G := G) (((Ze l 5).1).getD 2 ⟨#[]⟩)) (vals := [.string (((Ze l 5).1).getD 2 ⟨#[]⟩)]) (res' := Iv (vR (((Ze l 5).1).getD 2 ⟨#[]⟩))) rfl rfl rfl rfl rfl rfl ?_
  refine Zo (p := pt 3 0) (v := dgV ((Zav (((Ze l 5).1).getD 3 ⟨#[]⟩)).1)) rfl rfl rfl (by kernel_rfl) ?_
  refine Zd rfl rfl (slv 2 0 ((Ze l 5).1.length) ((Ze l 5).1.length)) rfl ?_
  refine Zbk (b := 2) (o := 0) (j := 4) (m := ((Ze l 5).1.length)) (c := ((Ze l 5).1.length)) (sz := 1) (i := 4) (k := .i64) rfl rfl rfl rfl rfl (by omega) (by omega) (by omega) ?_
  refine Zo (p := pt 2 4) (v := .string (((Ze l 5).1).getD 4 ⟨#[]⟩)) rfl rfl rfl (Zdv rfl rfl rfl (by omega)) ?_
  refine Zs (Zfg (G := G) (((Ze l 5).1).getD 4 ⟨#[]⟩)) (vals := [.string (((Ze l 5).1).getD 4 ⟨#[]⟩)]) (res' := Iv (vR (((Ze l 5).1).getD 4 ⟨#[]⟩))) rfl rfl rfl rfl rfl rfl ?_
  refine Zaw (vs := [(0, Iv (vR (((Ze l 5).1).getD 0 ⟨#[]⟩))), (1, Iv (vR (((Ze l 5).1).getD 1 ⟨#[]⟩))), (2, Iv (vR (((Ze l 5).1).getD 2 ⟨#[]⟩))), (3, dgV ((Zav (((Ze l 5).1).getD 3 ⟨#[]⟩)).1)), (4, Iv (vR (((Ze l 5).1).getD 4 ⟨#[]⟩)))]) (v := Zbf (⟨(vR (((Ze l 5).1).getD 0 ⟨#[]⟩)), (vR (((Ze l 5).1).getD 1 ⟨#[]⟩)), (vR (((Ze l 5).1).getD 2 ⟨#[]⟩)), (Zav (((Ze l 5).1).getD 3 ⟨#[]⟩)).1, (vR (((Ze l 5).1).getD 4 ⟨#[]⟩))⟩ : Head)) rfl rfl rfl (by kernel_rfl) ?_
  refine Zae (b := bxB 36 (Zan (⟨0, 0, 0, dz, 0⟩ : Head))) (nid := 4) (H' := [rdB l, bxB 36 (Zan (⟨0, 0, 0, dz, 0⟩ : Head)), txB ((Ze l 5).1), dgB ((Zav (((Ze l 5).1).getD 3 ⟨#[]⟩)).1), bxB 36 (Zan (⟨0, 0, 0, dz, 0⟩ : Head))]) rfl rfl (by kernel_rfl) (by kernel_rfl) ?_
  refine Zr (p := pt 4 0) (v := Zbf (⟨(vR (((Ze l 5).1).getD 0 ⟨#[]⟩)), (vR (((Ze l 5).1).getD 1 ⟨#[]⟩)), (vR (((Ze l 5).1).getD 2 ⟨#[]⟩)), (Zav (((Ze l 5).1).getD 3 ⟨#[]⟩)).1, (vR (((Ze l 5).1).getD 4 ⟨#[]⟩))⟩ : Head)) (b := 4) (blk := bxB 36 (Zan (⟨(vR (((Ze l 5).1).getD 0 ⟨#[]⟩)), (vR (((Ze l 5).1).getD 1 ⟨#[]⟩)), (vR (((Ze l 5).1).getD 2 ⟨#[]⟩)), (Zav (((Ze l 5).1).getD 3 ⟨#[]⟩)).1, (vR (((Ze l 5).1).getD 4 ⟨#[]⟩))⟩ : Head))) (H' := [rdB l, bxB 36 (Zan (⟨0, 0, 0, dz, 0⟩ : Head)), txB ((Ze l 5).1), dgB ((Zav (((Ze l 5).1).getD 3 ⟨#[]⟩)).1), bxB 36 (Zan (⟨(vR (((Ze l 5).1).getD 0 ⟨#[]⟩)), (vR (((Ze l 5).1).getD 1 ⟨#[]⟩)), (vR (((Ze l 5).1).getD 2 ⟨#[]⟩)), (Zav (((Ze l 5).1).getD 3 ⟨#[]⟩)).1, (vR (((Ze l 5).1).getD 4 ⟨#[]⟩))⟩ : Head))]) rfl rfl rfl (by kernel_rfl) (by kernel_rfl) ?_
  refine Zeo (Zdr [[], [0], [0, 1], [0, 1, 2], [], [4], [4, 5], [0, 1, 2, 3, 4, 5, 6], [], [8], [8, 9], [0, 1, 2, 3, 4, 5, 6, 7, 8, 9, 10], [], [], [13], [13, 14], [0, 1, 2, 3, 4, 5, 6, 7, 8, 9, 10, 11, 13, 14, 15], [0, 1, 2, 3, 4, 5, 6, 7, 8, 9, 10, 11, 12, 13, 14, 15, 16], [], [0, 1, 2, 3, 4, 5, 6, 7, 8, 9, 10, 11, 12, 13, 14, 15, 16, 17, 18]] (by kernel_rfl) (by kernel_rfl)) ?_
  refine Zc (Zg (Zg (Zi (Zd rfl rfl (.bool ((Zav (((Ze l 5).1).getD 3 ⟨#[]⟩)).2)) rfl ?_))))
  rcases Bool.eq_false_or_eq_true ((Zav (((Ze l 5).1).getD 3 ⟨#[]⟩)).2) with h2 | h2
  refine Zef (vx := .bool ((Zav (((Ze l 5).1).getD 3 ⟨#[]⟩)).2)) rfl rfl (.bool false) rfl (Eq.trans Zb1 (congrArg (fun b => some (Value.bool !b)) h2)) ?_
  refine Zd rfl rfl (.bool false) rfl ?_
  refine Zo (p := pt 4 0) (v := Zbf (⟨(vR (((Ze l 5).1).getD 0 ⟨#[]⟩)), (vR (((Ze l 5).1).getD 1 ⟨#[]⟩)), (vR (((Ze l 5).1).getD 2 ⟨#[]⟩)), (Zav (((Ze l 5).1).getD 3 ⟨#[]⟩)).1, (vR (((Ze l 5).1).getD 4 ⟨#[]⟩))⟩ : Head)) rfl rfl rfl (by kernel_rfl) ?_
  refine Zs (Znu (G := G) (⟨(vR (((Ze l 5).1).getD 0 ⟨#[]⟩)), (vR (((Ze l 5).1).getD 1 ⟨#[]⟩)), (vR (((Ze l 5).1).getD 2 ⟨#[]⟩)), (Zav (((Ze l 5).1).getD 3 ⟨#[]⟩)).1, (vR (((Ze l 5).1).getD 4 ⟨#[]⟩))⟩ : Head)) (vals := [Zbf (⟨(vR (((Ze l 5).1).getD 0 ⟨#[]⟩)), (vR (((Ze l 5).1).getD 1 ⟨#[]⟩)), (vR (((Ze l 5).1).getD 2 ⟨#[]⟩)), (Zav (((Ze l 5).1).getD 3 ⟨#[]⟩)).1, (vR (((Ze l 5).1).getD 4 ⟨#[]⟩))⟩ : Head)]) (res' := .bool (decide (Zbt (⟨(vR (((Ze l 5).1).getD 0 ⟨#[]⟩)), (vR (((Ze l 5).1).getD 1 ⟨#[]⟩)), (vR (((Ze l 5).1).getD 2 ⟨#[]⟩)), (Zav (((Ze l 5).1).getD 3 ⟨#[]⟩)).1, (vR (((Ze l 5).1).getD 4 ⟨#[]⟩))⟩ : Head)))) rfl rfl rfl rfl rfl rfl ?_
  rcases Bool.eq_false_or_eq_true (decide (Zbt (⟨(vR (((Ze l 5).1).getD 0 ⟨#[]⟩)), (vR (((Ze l 5).1).getD 1 ⟨#[]⟩)), (vR (((Ze l 5).1).getD 2 ⟨#[]⟩)), (Zav (((Ze l 5).1).getD 3 ⟨#[]⟩)).1, (vR (((Ze l 5).1).getD 4 ⟨#[]⟩))⟩ : Head))) with h3 | h3
  refine Zef (vx := .bool (decide (Zbt (⟨(vR (((Ze l 5).1).getD 0 ⟨#[]⟩)), (vR (((Ze l 5).1).getD 1 ⟨#[]⟩)), (vR (((Ze l 5).1).getD 2 ⟨#[]⟩)), (Zav (((Ze l 5).1).getD 3 ⟨#[]⟩)).1, (vR (((Ze l 5).1).getD 4 ⟨#[]⟩))⟩ : Head)))) rfl rfl (.bool false) rfl (Eq.trans Zb1 (congrArg (fun b => some (Value.bool !b)) h3)) ?_
  refine Zk rfl rfl (.bool false) rfl (Za (Zc (Zx rfl (Zai (Zc (Zg (Zi ?_)))))))
  refine Zo (p := pt 4 0) (v := Zbf (⟨(vR (((Ze l 5).1).getD 0 ⟨#[]⟩)), (vR (((Ze l 5).1).getD 1 ⟨#[]⟩)), (vR (((Ze l 5).1).getD 2 ⟨#[]⟩)), (Zav (((Ze l 5).1).getD 3 ⟨#[]⟩)).1, (vR (((Ze l 5).1).getD 4 ⟨#[]⟩))⟩ : Head)) rfl rfl rfl (by kernel_rfl) ?_
  refine Zr (p := pt 1 0) (v := Zbf (⟨(vR (((Ze l 5).1).getD 0 ⟨#[]⟩)), (vR (((Ze l 5).1).getD 1 ⟨#[]⟩)), (vR (((Ze l 5).1).getD 2 ⟨#[]⟩)), (Zav (((Ze l 5).1).getD 3 ⟨#[]⟩)).1, (vR (((Ze l 5).1).getD 4 ⟨#[]⟩))⟩ : Head)) (b := 1) (blk := bxB 36 (Zan (⟨(vR (((Ze l 5).1).getD 0 ⟨#[]⟩)), (vR (((Ze l 5).1).getD 1 ⟨#[]⟩)), (vR (((Ze l 5).1).getD 2 ⟨#[]⟩)), (Zav (((Ze l 5).1).getD 3 ⟨#[]⟩)).1, (vR (((Ze l 5).1).getD 4 ⟨#[]⟩))⟩ : Head))) (H' := [rdB l, bxB 36 (Zan (⟨(vR (((Ze l 5).1).getD 0 ⟨#[]⟩)), (vR (((Ze l 5).1).getD 1 ⟨#[]⟩)), (vR (((Ze l 5).1).getD 2 ⟨#[]⟩)), (Zav (((Ze l 5).1).getD 3 ⟨#[]⟩)).1, (vR (((Ze l 5).1).getD 4 ⟨#[]⟩))⟩ : Head)), txB ((Ze l 5).1), dgB ((Zav (((Ze l 5).1).getD 3 ⟨#[]⟩)).1), bxB 36 (Zan (⟨(vR (((Ze l 5).1).getD 0 ⟨#[]⟩)), (vR (((Ze l 5).1).getD 1 ⟨#[]⟩)), (vR (((Ze l 5).1).getD 2 ⟨#[]⟩)), (Zav (((Ze l 5).1).getD 3 ⟨#[]⟩)).1, (vR (((Ze l 5).1).getD 4 ⟨#[]⟩))⟩ : Head))]) rfl rfl rfl (by kernel_rfl) (by kernel_rfl) ?_
  refine Zb rfl rfl (Iv 0) rfl (Za (Zc (Zv (Zu ?_))))
  rw [Z1q (l := l) (by assumption) (by assumption) (of_decide_eq_true (by assumption))]
  exact Zm (v := .tuple #[Zbf (⟨(vR (((Ze l 5).1).getD 0 ⟨#[]⟩)), (vR (((Ze l 5).1).getD 1 ⟨#[]⟩)), (vR (((Ze l 5).1).getD 2 ⟨#[]⟩)), (Zav (((Ze l 5).1).getD 3 ⟨#[]⟩)).1, (vR (((Ze l 5).1).getD 4 ⟨#[]⟩))⟩ : Head), Iv 0]) (by kernel_rfl) rfl rfl (by simp [Zac, rdB]) ⟨(Zbd (by kernel_rfl) rfl), rfl, trivial⟩
  refine Zef (vx := .bool (decide (Zbt (⟨(vR (((Ze l 5).1).getD 0 ⟨#[]⟩)), (vR (((Ze l 5).1).getD 1 ⟨#[]⟩)), (vR (((Ze l 5).1).getD 2 ⟨#[]⟩)), (Zav (((Ze l 5).1).getD 3 ⟨#[]⟩)).1, (vR (((Ze l 5).1).getD 4 ⟨#[]⟩))⟩ : Head)))) rfl rfl (.bool true) rfl (Eq.trans Zb1 (congrArg (fun b => some (Value.bool !b)) h3)) ?_
  refine Zk rfl rfl (.bool true) rfl (Za (Zc (Z0 rfl (Zg (Zi ?_)))))
  refine Zaw (vs := []) (v := Zbf (⟨0, 0, 0, dz, 0⟩ : Head)) rfl rfl rfl (by kernel_rfl) ?_
  refine Zr (p := pt 1 0) (v := Zbf (⟨0, 0, 0, dz, 0⟩ : Head)) (b := 1) (blk := bxB 36 (Zan (⟨0, 0, 0, dz, 0⟩ : Head))) (H' := [rdB l, bxB 36 (Zan (⟨0, 0, 0, dz, 0⟩ : Head)), txB ((Ze l 5).1), dgB ((Zav (((Ze l 5).1).getD 3 ⟨#[]⟩)).1), bxB 36 (Zan (⟨(vR (((Ze l 5).1).getD 0 ⟨#[]⟩)), (vR (((Ze l 5).1).getD 1 ⟨#[]⟩)), (vR (((Ze l 5).1).getD 2 ⟨#[]⟩)), (Zav (((Ze l 5).1).getD 3 ⟨#[]⟩)).1, (vR (((Ze l 5).1).getD 4 ⟨#[]⟩))⟩ : Head))]) rfl rfl rfl (by kernel_rfl) (by kernel_rfl) ?_
  refine Zb rfl rfl (Iv 70) rfl (Za (Zc (Zv (Z5 (Zu ?_)))))
  rw [show Zax l = (⟨0, 0, 0, dz, 0⟩, 70) from by first | exact Zf6 (.inl (by assumption)) | exact Zf6 (.inr (.inl (by assumption))) | exact Zf6 (.inr (.inr (of_decide_eq_false (by assumption))))]
  exact Zm (v := .tuple #[Zbf (⟨0, 0, 0, dz, 0⟩ : Head), Iv 70]) (by kernel_rfl) rfl rfl (by simp [Zac, rdB]) ⟨(Zbd (by kernel_rfl) rfl), rfl, trivial⟩
  refine Zef (vx := .bool ((Zav (((Ze l 5).1).getD 3 ⟨#[]⟩)).2)) rfl rfl (.bool true) rfl (Eq.trans Zb1 (congrArg (fun b => some (Value.bool !b)) h2)) ?_
  refine Zd rfl rfl (.bool true) rfl (Zf rfl rfl (Zf rfl rfl (Zf rfl rfl (Zk rfl rfl (.bool true) rfl (Za (Zc (Z0 rfl (Zg (Zi ?_)))))))))
  refine Zaw (vs := []) (v := Zbf (⟨0, 0, 0, dz, 0⟩ : Head)) rfl rfl rfl (by kernel_rfl) ?_
  refine Zr (p := pt 1 0) (v := Zbf (⟨0, 0, 0, dz, 0⟩ : Head)) (b := 1) (blk := bxB 36 (Zan (⟨0, 0, 0, dz, 0⟩ : Head))) (H' := [rdB l, bxB 36 (Zan (⟨0, 0, 0, dz, 0⟩ : Head)), txB ((Ze l 5).1), dgB ((Zav (((Ze l 5).1).getD 3 ⟨#[]⟩)).1), bxB 36 (Zan (⟨(vR (((Ze l 5).1).getD 0 ⟨#[]⟩)), (vR (((Ze l 5).1).getD 1 ⟨#[]⟩)), (vR (((Ze l 5).1).getD 2 ⟨#[]⟩)), (Zav (((Ze l 5).1).getD 3 ⟨#[]⟩)).1, (vR (((Ze l 5).1).getD 4 ⟨#[]⟩))⟩ : Head))]) rfl rfl rfl (by kernel_rfl) (by kernel_rfl) ?_
  refine Zb rfl rfl (Iv 70) rfl (Za (Zc (Zv (Z5 (Zu ?_)))))
  rw [show Zax l = (⟨0, 0, 0, dz, 0⟩, 70) from by first | exact Zf6 (.inl (by assumption)) | exact Zf6 (.inr (.inl (by assumption))) | exact Zf6 (.inr (.inr (of_decide_eq_false (by assumption))))]
  exact Zm (v := .tuple #[Zbf (⟨0, 0, 0, dz, 0⟩ : Head), Iv 70]) (by kernel_rfl) rfl rfl (by simp [Zac, rdB]) ⟨(Zbd (by kernel_rfl) rfl), rfl, trivial⟩
  refine Zef (vx := .bool ((Ze l 5).2)) rfl rfl (.bool true) rfl (Eq.trans Zb1 (congrArg (fun b => some (Value.bool !b)) h1)) ?_
  refine Za (Zc (Z0 rfl (Zg (Zi ?_))))
  refine Zaw (vs := []) (v := Zbf (⟨0, 0, 0, dz, 0⟩ : Head)) rfl rfl rfl (by kernel_rfl) ?_
  refine Zr (p := pt 1 0) (v := Zbf (⟨0, 0, 0, dz, 0⟩ : Head)) (b := 1) (blk := bxB 36 (Zan (⟨0, 0, 0, dz, 0⟩ : Head))) (H' := [rdB l, bxB 36 (Zan (⟨0, 0, 0, dz, 0⟩ : Head)), txB ((Ze l 5).1), hole, hole]) rfl rfl rfl (by kernel_rfl) (by kernel_rfl) ?_
  refine Zb rfl rfl (Iv 70) rfl (Za (Zc (Zv (Z5 (Zu ?_)))))
  rw [show Zax l = (⟨0, 0, 0, dz, 0⟩, 70) from by first | exact Zf6 (.inl (by assumption)) | exact Zf6 (.inr (.inl (by assumption))) | exact Zf6 (.inr (.inr (of_decide_eq_false (by assumption))))]
  exact Zm (v := .tuple #[Zbf (⟨0, 0, 0, dz, 0⟩ : Head), Iv 70]) (by kernel_rfl) rfl rfl (by simp [Zac, rdB]) ⟨(Zbd (by kernel_rfl) rfl), rfl, trivial⟩
end Go.Flat
