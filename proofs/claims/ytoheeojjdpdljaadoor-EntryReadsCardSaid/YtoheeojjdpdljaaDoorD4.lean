/- Walks. -/
import Derived.Test.YtoheeojjdpdljaaDoorD3
set_option linter.unusedVariables false
set_option linter.unusedSimpArgs false
set_option maxRecDepth 20000
namespace Go.Flat
open Go.Proofs
variable {G : Glob}
theorem Z0b {l : Bs} (h : (Zal l).2 ≠ 0) : Zal l = (⟨0, zE⟩, 60) := by
 unfold Zal at h ⊢
 split at h
 ·exact absurd rfl h
 ·rename_i q; exact if_neg q
def Z2i (ls : List ByteArray) : Item := ⟨vR (ls.getD 0 ⟨#[]⟩), (Z4 (bl (ls.getD 1 ⟨#[]⟩))).1⟩
theorem Zyg (x : Item) : Zd0 0 [(Zp x.epoch).1, Zl (Zaf x.entry).1] = Zgf x := rfl
theorem Z1v {l : Bs} (h1 : (Ze l 2).2 = true) (h0 : (Z4 (bl ((Ze l 2).1.getD 1 ⟨#[]⟩))).2 = 0) (h3 : Zd9 (Z2i (Ze l 2).1)) : Zal l = (Z2i (Ze l 2).1, 0) := by
 obtain ⟨q1, q2⟩ := Zfz h1
 generalize (Ze l 2).1 = ls at *
 match ls, q1 with
 | [a, b], _ =>
  have h0' : (Z4 (bl b)).2 = 0 := h0
  have r1 : 1 ≤ vR a := h3.1
  have v1 := Ziq (s := a) (by omega)
  have w1 := (Zjw (s := a) (by rw [v1])).2.2
  rw [v1] at w1
  have hs := Zkk h0'
  have hx : Z2i [a, b] = ⟨vR a, (Z4 (bl b)).1⟩ := rfl
  rw [hx] at h3 ⊢
  have hF : Zgf ⟨vR a, (Z4 (bl b)).1⟩ = Zd0 0 [a, b] := by
   rw [← Zyg]
   show Zd0 0 [(Zp (vR a)).1, Zl (Zaf (Z4 (bl b)).1).1] = _
   rw [w1, hs.1, Zh6]
  have hb : (Z7 ⟨vR a, (Z4 (bl b)).1⟩).1 = (Z6 (Zgf ⟨vR a, (Z4 (bl b)).1⟩) 0 []).1 := by rw [show Z7 ⟨vR a, (Z4 (bl b)).1⟩ = _ from if_pos h3]
  have hl : l = (Z7 ⟨vR a, (Z4 (bl b)).1⟩).1 := by rw [hb, hF]; exact Zwz q2 (by simp)
  have hrd : Zh l = (Zgf ⟨vR a, (Z4 (bl b)).1⟩, 0) := by rw [hl, hb]; exact Zk2 _ (Zoz _)
  have ht : Zfj (Zgf ⟨vR a, (Z4 (bl b)).1⟩) ⟨0, ⟨0, 0, 0, ⟨#[]⟩, ⟨⟨0, 0, 0, dz, 0⟩, 0, dz⟩, ⟨0, 0, 0, 0, dz⟩⟩⟩ = ⟨vR a, (Z4 (bl b)).1⟩ := by
   rw [hF]; simp [Zd0, Zfj, Zix, v1]
  unfold Zal
  rw [hrd, ht]
  exact if_pos ⟨rfl, Zpq h3, by rw [← hl]; exact Zgh _⟩
theorem Zga {l : Bs} (h : (Ze l 2).2 = false ∨ (Z4 (bl ((Ze l 2).1.getD 1 ⟨#[]⟩))).2 ≠ 0 ∨ ¬ Zd9 (Z2i (Ze l 2).1)) : Zal l = (⟨0, zE⟩, 60) := by
 refine Z0b fun e => ?_
 obtain ⟨g1, g2⟩ := Zqf e
 have hr := Z0j g2
 generalize hx : (Zal l).1 = x at *
 have hb : (Z7 x).1 = Zaj [(Zp x.epoch).1, Zl (Zaf x.entry).1] := by rw [show Z7 x = _ from if_pos hr]; rfl
 rw [g1] at hb
 have hof : ofF l = (true, [(Zp x.epoch).1, Zl (Zaf x.entry).1]) := by rw [hb]; exact Zkv _ (by simp) (Z02 x)
 have hp := Zma hof
 rw [show [(Zp x.epoch).1, Zl (Zaf x.entry).1].length = 2 from rfl] at hp
 rw [hp] at h
 have ve := Zca (n := x.epoch) (by have := hr.1; omega) (by have := hr.2.1; omega)
 have hg : (Z4 (bl (Zl (Zaf x.entry).1))).2 = 0 := by rw [Zdi]; exact (Zt7 hr.2.2).1
 rcases h with h | h | h
 ·exact absurd (show true = false from h) (by decide)
 ·exact h hg
 ·refine h ?_
  show Zd9 ⟨vR (Zp x.epoch).1, (Z4 (bl (Zl (Zaf x.entry).1))).1⟩
  rw [Zmz (by rw [ve]), ve]
  exact ⟨hr.1, hr.2.1, Zsj (Zkk hg).2⟩
theorem Zlr {b : Bs} (e : (Z9 b).2 = 0) : Zbq (Zl (Z8 (Z9 b).1).1) (Zl b) = true := by rw [(Znb e).1]; exact Zgh _
theorem Zlk {b : Bs} (e : (Z4 b).2 = 0) : Zbq (Zl (Zaf (Z4 b).1).1) (Zl b) = true := by rw [(Zkk e).1]; exact Zgh _
theorem Zll {b : Bs} (e : (Zal b).2 = 0) : Zbq (Zl (Z7 (Zal b).1).1) (Zl b) = true := by rw [(Zqf e).1]; exact Zgh _
theorem Zvr (b : Bs) (n c : Nat) (hn : b.length = n) (hc : n ≤ c) (hb : n ≤ 1048576) : Zao Tryd.prog G 20 [slv 0 0 n c] [rdB (((b ++ List.replicate 7 195#8).drop 0).take n)] (.tuple #[Zz (Z9 b).1, Iv (Z9 b).2]) [rdB (((b ++ List.replicate 7 195#8).drop 0).take n)] := by
 rw [Zpb hn]; subst hn; exact Zjx (G := G) b c hc hb
theorem Z40 (b : Bs) (n c : Nat) (hn : b.length = n) (hc : n ≤ c) (hb : n ≤ 1048576) : Zao Tryd.prog G 12 [slv 0 0 n c] [rdB (((b ++ List.replicate 7 195#8).drop 0).take n)] (.tuple #[Zaz (Z4 b).1, Iv (Z4 b).2]) [rdB (((b ++ List.replicate 7 195#8).drop 0).take n)] := by
 rw [Zpb hn]; subst hn; exact Zw1 (G := G) b c hc hb
theorem Zxr (b : Bs) (n c : Nat) (hn : b.length = n) (hc : n ≤ c) (hb : n ≤ 1048576) : Zao Tryd.prog G 16 [slv 0 0 n c] [rdB (((b ++ List.replicate 7 195#8).drop 0).take n)] (.tuple #[Za4 (Zal b).1, Iv (Zal b).2]) [rdB (((b ++ List.replicate 7 195#8).drop 0).take n)] := by
 rw [Zpb hn]; subst hn; exact Zpf (G := G) b c hc hb
theorem Z17 (l : Bs) (n c : Nat) (hn : l.length = n) (hc : n ≤ c) (hb : n ≤ 1048576) (hcc : c ≤ 9223372036854775807) : Zao Tryd.prog G 22 [slv 0 0 n c] [rdB l] (.tuple #[Zaz (Z4 l).1, Iv (Z4 l).2]) [rdB l] := by
 subst hn; exact Zss (G := G) l c hc (by omega) hcc
theorem Zts (l : Bs) (c : Nat) (hc : l.length ≤ c) (hb : l.length ≤ 1048576) (hcc : c ≤ 9223372036854775807) : Zao Tryd.prog G 23 [slv 0 0 l.length c] [rdB l] (.tuple #[Za4 (Zal l).1, Iv (Zal l).2]) [rdB l] := by
  refine Zbv (fn := Tryd.f23) (nt := 40) rfl rfl rfl rfl ?_
  refine Zat 5 (H' := [rdB l, hole, hole, hole, hole, hole]) rfl ?_
  refine Zg (Zi ?_)
  refine Zae (b := bxB 110 (Zab (⟨0, (⟨0, 0, 0, ⟨#[]⟩, (⟨(⟨0, 0, 0, dz, 0⟩ : Head), 0, dz⟩ : Signed), (⟨0, 0, 0, 0, dz⟩ : Claim)⟩ : Entry)⟩ : Item))) (nid := 1) (H' := [rdB l, bxB 110 (Zab (⟨0, (⟨0, 0, 0, ⟨#[]⟩, (⟨(⟨0, 0, 0, dz, 0⟩ : Head), 0, dz⟩ : Signed), (⟨0, 0, 0, 0, dz⟩ : Claim)⟩ : Entry)⟩ : Item)), hole, hole, hole, hole]) rfl rfl (by kernel_rfl) (by kernel_rfl) ?_
  refine Zb rfl rfl (Iv 0) rfl (Za (Zc (Zg (Zi (Zd rfl rfl (slv 0 0 l.length c) rfl ?_)))))
  refine Zad (e := [some (0, 0)]) (nid := 2) (Zkm (G := G) l c 2 hc (by omega) hcc (by omega)) (vals := [slv 0 0 l.length c, Iv 2]) (v := .tuple #[slv 2 0 ((Ze l 2).1.length) ((Ze l 2).1.length), .bool ((Ze l 2).2)]) (H' := [rdB l, bxB 110 (Zab (⟨0, (⟨0, 0, 0, ⟨#[]⟩, (⟨(⟨0, 0, 0, dz, 0⟩ : Head), 0, dz⟩ : Signed), (⟨0, 0, 0, 0, dz⟩ : Claim)⟩ : Entry)⟩ : Item)), txB ((Ze l 2).1), hole, hole, hole]) rfl rfl rfl rfl rfl rfl rfl ⟨⟨⟨rfl, rfl, rfl, by omega, by omega⟩, rfl, trivial⟩, ⟨(Zdk rfl), trivial⟩, rfl, rfl, rfl⟩ (by kernel_rfl) (by kernel_rfl) ?_
  refine Zd rfl rfl (.tuple #[slv 2 0 ((Ze l 2).1.length) ((Ze l 2).1.length), .bool ((Ze l 2).2)]) rfl (Zt (vs := #[slv 2 0 ((Ze l 2).1.length) ((Ze l 2).1.length), .bool ((Ze l 2).2)]) (v := slv 2 0 ((Ze l 2).1.length) ((Ze l 2).1.length)) rfl rfl rfl rfl (Zt (vs := #[slv 2 0 ((Ze l 2).1.length) ((Ze l 2).1.length), .bool ((Ze l 2).2)]) (v := .bool ((Ze l 2).2)) rfl rfl rfl rfl (Zb rfl rfl (slv 2 0 ((Ze l 2).1.length) ((Ze l 2).1.length)) rfl (Zb rfl rfl (.bool ((Ze l 2).2)) rfl (Za (Zc (Zg (Zg (Zi (Zd rfl rfl (.bool ((Ze l 2).2)) rfl ?_))))))))))
  rcases Bool.eq_false_or_eq_true ((Ze l 2).2) with h1 | h1
  refine Zef (vx := .bool ((Ze l 2).2)) rfl rfl (.bool false) rfl (Eq.trans Zb1 (congrArg (fun b => some (Value.bool !b)) h1)) ?_
  refine Za (Zc (Zx rfl (Zai (Zc (Zg ?_)))))
  have hp5 := (Zfz (l := l) (n := 2) (by assumption)).1
  have hs40 := fun i => Zjg (n := 2) hb i
  have hs1 := hs40 1
  have hbl1 := Zb5 ((Ze l 2).1.getD 1 ⟨#[]⟩)
  refine Zi (Zd rfl rfl (slv 2 0 ((Ze l 2).1.length) ((Ze l 2).1.length)) rfl ?_)
  refine Zbk (b := 2) (o := 0) (j := 1) (m := ((Ze l 2).1.length)) (c := ((Ze l 2).1.length)) (sz := 1) (i := 1) (k := .i64) rfl rfl rfl rfl rfl (by omega) (by omega) (by omega) ?_
  refine Zo (p := pt 2 1) (v := .string (((Ze l 2).1).getD 1 ⟨#[]⟩)) rfl rfl rfl (Zdv rfl rfl rfl (by omega)) ?_
  refine Zew (p := .string (((Ze l 2).1).getD 1 ⟨#[]⟩)) (v := slv 3 0 ((((Ze l 2).1).getD 1 ⟨#[]⟩).size) ((((Ze l 2).1).getD 1 ⟨#[]⟩).size)) (blk := Zy (bl (((Ze l 2).1).getD 1 ⟨#[]⟩))) (nid := 3) (H' := [rdB l, bxB 110 (Zab (⟨0, (⟨0, 0, 0, ⟨#[]⟩, (⟨(⟨0, 0, 0, dz, 0⟩ : Head), 0, dz⟩ : Signed), (⟨0, 0, 0, 0, dz⟩ : Claim)⟩ : Entry)⟩ : Item)), txB ((Ze l 2).1), Zy (bl (((Ze l 2).1).getD 1 ⟨#[]⟩)), hole, hole]) rfl rfl rfl (Zfq rfl rfl rfl) (by kernel_rfl) ?_
  refine Zad (e := [some (3, 0)]) (nid := 0) (Z17 (G := G) (bl (((Ze l 2).1).getD 1 ⟨#[]⟩)) ((((Ze l 2).1).getD 1 ⟨#[]⟩).size) ((((Ze l 2).1).getD 1 ⟨#[]⟩).size) (Zb5 (((Ze l 2).1).getD 1 ⟨#[]⟩)) (by omega) (by omega) (by omega)) (vals := [slv 3 0 ((((Ze l 2).1).getD 1 ⟨#[]⟩).size) ((((Ze l 2).1).getD 1 ⟨#[]⟩).size)]) (v := .tuple #[Zaz ((Z4 (bl (((Ze l 2).1).getD 1 ⟨#[]⟩))).1), Iv ((Z4 (bl (((Ze l 2).1).getD 1 ⟨#[]⟩))).2)]) (H' := [rdB l, bxB 110 (Zab (⟨0, (⟨0, 0, 0, ⟨#[]⟩, (⟨(⟨0, 0, 0, dz, 0⟩ : Head), 0, dz⟩ : Signed), (⟨0, 0, 0, 0, dz⟩ : Claim)⟩ : Entry)⟩ : Item)), txB ((Ze l 2).1), Zy (bl (((Ze l 2).1).getD 1 ⟨#[]⟩)), hole, hole]) rfl rfl rfl rfl rfl rfl rfl ⟨⟨⟨rfl, rfl, rfl, by first | omega | exact Nat.le_refl _, by first | omega | exact Nat.le_refl _⟩, trivial⟩, ⟨(Ze1 rfl), trivial⟩, rfl, rfl, rfl⟩ (by kernel_rfl) (by kernel_rfl) ?_
  refine Zd rfl rfl (.tuple #[Zaz ((Z4 (bl (((Ze l 2).1).getD 1 ⟨#[]⟩))).1), Iv ((Z4 (bl (((Ze l 2).1).getD 1 ⟨#[]⟩))).2)]) rfl (Zt (vs := #[Zaz ((Z4 (bl (((Ze l 2).1).getD 1 ⟨#[]⟩))).1), Iv ((Z4 (bl (((Ze l 2).1).getD 1 ⟨#[]⟩))).2)]) (v := Zaz ((Z4 (bl (((Ze l 2).1).getD 1 ⟨#[]⟩))).1)) rfl rfl rfl rfl (Zt (vs := #[Zaz ((Z4 (bl (((Ze l 2).1).getD 1 ⟨#[]⟩))).1), Iv ((Z4 (bl (((Ze l 2).1).getD 1 ⟨#[]⟩))).2)]) (v := Iv ((Z4 (bl (((Ze l 2).1).getD 1 ⟨#[]⟩))).2)) rfl rfl rfl rfl ?_))
  refine Zae (b := bxB 109 (Z2 (⟨0, 0, 0, ⟨#[]⟩, (⟨(⟨0, 0, 0, dz, 0⟩ : Head), 0, dz⟩ : Signed), (⟨0, 0, 0, 0, dz⟩ : Claim)⟩ : Entry))) (nid := 4) (H' := [rdB l, bxB 110 (Zab (⟨0, (⟨0, 0, 0, ⟨#[]⟩, (⟨(⟨0, 0, 0, dz, 0⟩ : Head), 0, dz⟩ : Signed), (⟨0, 0, 0, 0, dz⟩ : Claim)⟩ : Entry)⟩ : Item)), txB ((Ze l 2).1), Zy (bl (((Ze l 2).1).getD 1 ⟨#[]⟩)), bxB 109 (Z2 (⟨0, 0, 0, ⟨#[]⟩, (⟨(⟨0, 0, 0, dz, 0⟩ : Head), 0, dz⟩ : Signed), (⟨0, 0, 0, 0, dz⟩ : Claim)⟩ : Entry)), hole]) rfl rfl (by kernel_rfl) (by kernel_rfl) ?_
  refine Zr (p := pt 4 0) (v := Zaz ((Z4 (bl (((Ze l 2).1).getD 1 ⟨#[]⟩))).1)) (b := 4) (blk := bxB 109 (Z2 ((Z4 (bl (((Ze l 2).1).getD 1 ⟨#[]⟩))).1))) (H' := [rdB l, bxB 110 (Zab (⟨0, (⟨0, 0, 0, ⟨#[]⟩, (⟨(⟨0, 0, 0, dz, 0⟩ : Head), 0, dz⟩ : Signed), (⟨0, 0, 0, 0, dz⟩ : Claim)⟩ : Entry)⟩ : Item)), txB ((Ze l 2).1), Zy (bl (((Ze l 2).1).getD 1 ⟨#[]⟩)), bxB 109 (Z2 ((Z4 (bl (((Ze l 2).1).getD 1 ⟨#[]⟩))).1)), hole]) rfl rfl rfl (by kernel_rfl) (by kernel_rfl) ?_
  refine Zb rfl rfl (Iv ((Z4 (bl (((Ze l 2).1).getD 1 ⟨#[]⟩))).2)) rfl (Za (Zc (Zg ?_)))
  refine Zfv (by kernel_rfl) ?_
  refine Zd rfl rfl (slv 2 0 ((Ze l 2).1.length) ((Ze l 2).1.length)) rfl ?_
  refine Zbk (b := 2) (o := 0) (j := 0) (m := ((Ze l 2).1.length)) (c := ((Ze l 2).1.length)) (sz := 1) (i := 0) (k := .i64) rfl rfl rfl rfl rfl (by omega) (by omega) (by omega) ?_
  refine Zo (p := pt 2 0) (v := .string (((Ze l 2).1).getD 0 ⟨#[]⟩)) rfl rfl rfl (Zdv rfl rfl rfl (by omega)) ?_
  refine Zs (Zfg (G := G) (((Ze l 2).1).getD 0 ⟨#[]⟩)) (vals := [.string (((Ze l 2).1).getD 0 ⟨#[]⟩)]) (res' := Iv (vR (((Ze l 2).1).getD 0 ⟨#[]⟩))) rfl rfl rfl rfl rfl rfl ?_
  refine Zo (p := pt 4 0) (v := Zaz ((Z4 (bl (((Ze l 2).1).getD 1 ⟨#[]⟩))).1)) rfl rfl rfl (by kernel_rfl) ?_
  refine Zaw (vs := [(0, Iv (vR (((Ze l 2).1).getD 0 ⟨#[]⟩))), (1, Zaz ((Z4 (bl (((Ze l 2).1).getD 1 ⟨#[]⟩))).1))]) (v := Za4 (⟨(vR (((Ze l 2).1).getD 0 ⟨#[]⟩)), (Z4 (bl (((Ze l 2).1).getD 1 ⟨#[]⟩))).1⟩ : Item)) rfl rfl rfl (by kernel_rfl) ?_
  refine Zae (b := bxB 110 (Zab (⟨0, (⟨0, 0, 0, ⟨#[]⟩, (⟨(⟨0, 0, 0, dz, 0⟩ : Head), 0, dz⟩ : Signed), (⟨0, 0, 0, 0, dz⟩ : Claim)⟩ : Entry)⟩ : Item))) (nid := 5) (H' := [rdB l, bxB 110 (Zab (⟨0, (⟨0, 0, 0, ⟨#[]⟩, (⟨(⟨0, 0, 0, dz, 0⟩ : Head), 0, dz⟩ : Signed), (⟨0, 0, 0, 0, dz⟩ : Claim)⟩ : Entry)⟩ : Item)), txB ((Ze l 2).1), Zy (bl (((Ze l 2).1).getD 1 ⟨#[]⟩)), bxB 109 (Z2 ((Z4 (bl (((Ze l 2).1).getD 1 ⟨#[]⟩))).1)), bxB 110 (Zab (⟨0, (⟨0, 0, 0, ⟨#[]⟩, (⟨(⟨0, 0, 0, dz, 0⟩ : Head), 0, dz⟩ : Signed), (⟨0, 0, 0, 0, dz⟩ : Claim)⟩ : Entry)⟩ : Item))]) rfl rfl (by kernel_rfl) (by kernel_rfl) ?_
  refine Zr (p := pt 5 0) (v := Za4 (⟨(vR (((Ze l 2).1).getD 0 ⟨#[]⟩)), (Z4 (bl (((Ze l 2).1).getD 1 ⟨#[]⟩))).1⟩ : Item)) (b := 5) (blk := bxB 110 (Zab (⟨(vR (((Ze l 2).1).getD 0 ⟨#[]⟩)), (Z4 (bl (((Ze l 2).1).getD 1 ⟨#[]⟩))).1⟩ : Item))) (H' := [rdB l, bxB 110 (Zab (⟨0, (⟨0, 0, 0, ⟨#[]⟩, (⟨(⟨0, 0, 0, dz, 0⟩ : Head), 0, dz⟩ : Signed), (⟨0, 0, 0, 0, dz⟩ : Claim)⟩ : Entry)⟩ : Item)), txB ((Ze l 2).1), Zy (bl (((Ze l 2).1).getD 1 ⟨#[]⟩)), bxB 109 (Z2 ((Z4 (bl (((Ze l 2).1).getD 1 ⟨#[]⟩))).1)), bxB 110 (Zab (⟨(vR (((Ze l 2).1).getD 0 ⟨#[]⟩)), (Z4 (bl (((Ze l 2).1).getD 1 ⟨#[]⟩))).1⟩ : Item))]) rfl rfl rfl (by kernel_rfl) (by kernel_rfl) ?_
  refine Zeo (Zdr [[], [0], [0, 1], [0, 1, 2], [], [0, 1, 2, 3, 4], [], [0, 1, 2, 3, 4, 5, 6]] (by kernel_rfl) (by kernel_rfl)) ?_
  refine Zc (Zg (Zg (Zi (Zd rfl rfl (Iv ((Z4 (bl (((Ze l 2).1).getD 1 ⟨#[]⟩))).2)) rfl ?_))))
  by_cases h2 : ((Z4 (bl (((Ze l 2).1).getD 1 ⟨#[]⟩))).2) ≠ 0
  refine Zn (vx := Iv ((Z4 (bl (((Ze l 2).1).getD 1 ⟨#[]⟩))).2)) (vy := Iv 0) rfl rfl (.bool true) rfl rfl (Zeg (by omega)) ?_
  refine Zd rfl rfl (.bool true) rfl (Zf rfl rfl (Zf rfl rfl (Zf rfl rfl (Zk rfl rfl (.bool true) rfl (Za (Zc (Z0 rfl (Zg (Zi ?_)))))))))
  refine Zaw (vs := []) (v := Za4 (⟨0, (⟨0, 0, 0, ⟨#[]⟩, (⟨(⟨0, 0, 0, dz, 0⟩ : Head), 0, dz⟩ : Signed), (⟨0, 0, 0, 0, dz⟩ : Claim)⟩ : Entry)⟩ : Item)) rfl rfl rfl (by kernel_rfl) ?_
  refine Zr (p := pt 1 0) (v := Za4 (⟨0, (⟨0, 0, 0, ⟨#[]⟩, (⟨(⟨0, 0, 0, dz, 0⟩ : Head), 0, dz⟩ : Signed), (⟨0, 0, 0, 0, dz⟩ : Claim)⟩ : Entry)⟩ : Item)) (b := 1) (blk := bxB 110 (Zab (⟨0, (⟨0, 0, 0, ⟨#[]⟩, (⟨(⟨0, 0, 0, dz, 0⟩ : Head), 0, dz⟩ : Signed), (⟨0, 0, 0, 0, dz⟩ : Claim)⟩ : Entry)⟩ : Item))) (H' := [rdB l, bxB 110 (Zab (⟨0, (⟨0, 0, 0, ⟨#[]⟩, (⟨(⟨0, 0, 0, dz, 0⟩ : Head), 0, dz⟩ : Signed), (⟨0, 0, 0, 0, dz⟩ : Claim)⟩ : Entry)⟩ : Item)), txB ((Ze l 2).1), Zy (bl (((Ze l 2).1).getD 1 ⟨#[]⟩)), bxB 109 (Z2 ((Z4 (bl (((Ze l 2).1).getD 1 ⟨#[]⟩))).1)), bxB 110 (Zab (⟨(vR (((Ze l 2).1).getD 0 ⟨#[]⟩)), (Z4 (bl (((Ze l 2).1).getD 1 ⟨#[]⟩))).1⟩ : Item))]) rfl rfl rfl (by kernel_rfl) (by kernel_rfl) ?_
  refine Zb rfl rfl (Iv 60) rfl (Za (Zc (Zv (Z5 (Zu ?_)))))
  rw [show Zal l = (⟨0, zE⟩, 60) from by first | exact Zga (.inl (by assumption)) | exact Zga (.inr (.inl (by omega))) | exact Zga (.inr (.inr (of_decide_eq_false (by assumption))))]
  exact Zm (v := .tuple #[Za4 (⟨0, (⟨0, 0, 0, ⟨#[]⟩, (⟨(⟨0, 0, 0, dz, 0⟩ : Head), 0, dz⟩ : Signed), (⟨0, 0, 0, 0, dz⟩ : Claim)⟩ : Entry)⟩ : Item), Iv 60]) (by kernel_rfl) rfl rfl (by simp [Zac, rdB]) ⟨(Zbd (by kernel_rfl) rfl), rfl, trivial⟩
  refine Zn (vx := Iv ((Z4 (bl (((Ze l 2).1).getD 1 ⟨#[]⟩))).2)) (vy := Iv 0) rfl rfl (.bool false) rfl rfl (Zds (by omega)) ?_
  refine Zd rfl rfl (.bool false) rfl ?_
  refine Zo (p := pt 5 0) (v := Za4 (⟨(vR (((Ze l 2).1).getD 0 ⟨#[]⟩)), (Z4 (bl (((Ze l 2).1).getD 1 ⟨#[]⟩))).1⟩ : Item)) rfl rfl rfl (by kernel_rfl) ?_
  refine Zs (Zrk (G := G) (⟨(vR (((Ze l 2).1).getD 0 ⟨#[]⟩)), (Z4 (bl (((Ze l 2).1).getD 1 ⟨#[]⟩))).1⟩ : Item)) (vals := [Za4 (⟨(vR (((Ze l 2).1).getD 0 ⟨#[]⟩)), (Z4 (bl (((Ze l 2).1).getD 1 ⟨#[]⟩))).1⟩ : Item)]) (res' := .bool (decide (Zd9 (⟨(vR (((Ze l 2).1).getD 0 ⟨#[]⟩)), (Z4 (bl (((Ze l 2).1).getD 1 ⟨#[]⟩))).1⟩ : Item)))) rfl rfl rfl rfl rfl rfl ?_
  rcases Bool.eq_false_or_eq_true (decide (Zd9 (⟨(vR (((Ze l 2).1).getD 0 ⟨#[]⟩)), (Z4 (bl (((Ze l 2).1).getD 1 ⟨#[]⟩))).1⟩ : Item))) with h3 | h3
  refine Zef (vx := .bool (decide (Zd9 (⟨(vR (((Ze l 2).1).getD 0 ⟨#[]⟩)), (Z4 (bl (((Ze l 2).1).getD 1 ⟨#[]⟩))).1⟩ : Item)))) rfl rfl (.bool false) rfl (Eq.trans Zb1 (congrArg (fun b => some (Value.bool !b)) h3)) ?_
  refine Zk rfl rfl (.bool false) rfl (Za (Zc (Zx rfl (Zai (Zc (Zg (Zi ?_)))))))
  refine Zo (p := pt 5 0) (v := Za4 (⟨(vR (((Ze l 2).1).getD 0 ⟨#[]⟩)), (Z4 (bl (((Ze l 2).1).getD 1 ⟨#[]⟩))).1⟩ : Item)) rfl rfl rfl (by kernel_rfl) ?_
  refine Zr (p := pt 1 0) (v := Za4 (⟨(vR (((Ze l 2).1).getD 0 ⟨#[]⟩)), (Z4 (bl (((Ze l 2).1).getD 1 ⟨#[]⟩))).1⟩ : Item)) (b := 1) (blk := bxB 110 (Zab (⟨(vR (((Ze l 2).1).getD 0 ⟨#[]⟩)), (Z4 (bl (((Ze l 2).1).getD 1 ⟨#[]⟩))).1⟩ : Item))) (H' := [rdB l, bxB 110 (Zab (⟨(vR (((Ze l 2).1).getD 0 ⟨#[]⟩)), (Z4 (bl (((Ze l 2).1).getD 1 ⟨#[]⟩))).1⟩ : Item)), txB ((Ze l 2).1), Zy (bl (((Ze l 2).1).getD 1 ⟨#[]⟩)), bxB 109 (Z2 ((Z4 (bl (((Ze l 2).1).getD 1 ⟨#[]⟩))).1)), bxB 110 (Zab (⟨(vR (((Ze l 2).1).getD 0 ⟨#[]⟩)), (Z4 (bl (((Ze l 2).1).getD 1 ⟨#[]⟩))).1⟩ : Item))]) rfl rfl rfl (by kernel_rfl) (by kernel_rfl) ?_
  refine Zb rfl rfl (Iv 0) rfl (Za (Zc (Zv (Zu ?_))))
  rw [Z1v (l := l) (by assumption) (by omega) (of_decide_eq_true (by assumption))]
  exact Zm (v := .tuple #[Za4 (⟨(vR (((Ze l 2).1).getD 0 ⟨#[]⟩)), (Z4 (bl (((Ze l 2).1).getD 1 ⟨#[]⟩))).1⟩ : Item), Iv 0]) (by kernel_rfl) rfl rfl (by simp [Zac, rdB]) ⟨(Zbd (by kernel_rfl) rfl), rfl, trivial⟩
  refine Zef (vx := .bool (decide (Zd9 (⟨(vR (((Ze l 2).1).getD 0 ⟨#[]⟩)), (Z4 (bl (((Ze l 2).1).getD 1 ⟨#[]⟩))).1⟩ : Item)))) rfl rfl (.bool true) rfl (Eq.trans Zb1 (congrArg (fun b => some (Value.bool !b)) h3)) ?_
  refine Zk rfl rfl (.bool true) rfl (Za (Zc (Z0 rfl (Zg (Zi ?_)))))
  refine Zaw (vs := []) (v := Za4 (⟨0, (⟨0, 0, 0, ⟨#[]⟩, (⟨(⟨0, 0, 0, dz, 0⟩ : Head), 0, dz⟩ : Signed), (⟨0, 0, 0, 0, dz⟩ : Claim)⟩ : Entry)⟩ : Item)) rfl rfl rfl (by kernel_rfl) ?_
  refine Zr (p := pt 1 0) (v := Za4 (⟨0, (⟨0, 0, 0, ⟨#[]⟩, (⟨(⟨0, 0, 0, dz, 0⟩ : Head), 0, dz⟩ : Signed), (⟨0, 0, 0, 0, dz⟩ : Claim)⟩ : Entry)⟩ : Item)) (b := 1) (blk := bxB 110 (Zab (⟨0, (⟨0, 0, 0, ⟨#[]⟩, (⟨(⟨0, 0, 0, dz, 0⟩ : Head), 0, dz⟩ : Signed), (⟨0, 0, 0, 0, dz⟩ : Claim)⟩ : Entry)⟩ : Item))) (H' := [rdB l, bxB 110 (Zab (⟨0, (⟨0, 0, 0, ⟨#[]⟩, (⟨(⟨0, 0, 0, dz, 0⟩ : Head), 0, dz⟩ : Signed), (⟨0, 0, 0, 0, dz⟩ : Claim)⟩ : Entry)⟩ : Item)), txB ((Ze l 2).1), Zy (bl (((Ze l 2).1).getD 1 ⟨#[]⟩)), bxB 109 (Z2 ((Z4 (bl (((Ze l 2).1).getD 1 ⟨#[]⟩))).1)), bxB 110 (Zab (⟨(vR (((Ze l 2).1).getD 0 ⟨#[]⟩)), (Z4 (bl (((Ze l 2).1).getD 1 ⟨#[]⟩))).1⟩ : Item))]) rfl rfl rfl (by kernel_rfl) (by kernel_rfl) ?_
  refine Zb rfl rfl (Iv 60) rfl (Za (Zc (Zv (Z5 (Zu ?_)))))
  rw [show Zal l = (⟨0, zE⟩, 60) from by first | exact Zga (.inl (by assumption)) | exact Zga (.inr (.inl (by omega))) | exact Zga (.inr (.inr (of_decide_eq_false (by assumption))))]
  exact Zm (v := .tuple #[Za4 (⟨0, (⟨0, 0, 0, ⟨#[]⟩, (⟨(⟨0, 0, 0, dz, 0⟩ : Head), 0, dz⟩ : Signed), (⟨0, 0, 0, 0, dz⟩ : Claim)⟩ : Entry)⟩ : Item), Iv 60]) (by kernel_rfl) rfl rfl (by simp [Zac, rdB]) ⟨(Zbd (by kernel_rfl) rfl), rfl, trivial⟩
  refine Zef (vx := .bool ((Ze l 2).2)) rfl rfl (.bool true) rfl (Eq.trans Zb1 (congrArg (fun b => some (Value.bool !b)) h1)) ?_
  refine Za (Zc (Z0 rfl (Zg (Zi ?_))))
  refine Zaw (vs := []) (v := Za4 (⟨0, (⟨0, 0, 0, ⟨#[]⟩, (⟨(⟨0, 0, 0, dz, 0⟩ : Head), 0, dz⟩ : Signed), (⟨0, 0, 0, 0, dz⟩ : Claim)⟩ : Entry)⟩ : Item)) rfl rfl rfl (by kernel_rfl) ?_
  refine Zr (p := pt 1 0) (v := Za4 (⟨0, (⟨0, 0, 0, ⟨#[]⟩, (⟨(⟨0, 0, 0, dz, 0⟩ : Head), 0, dz⟩ : Signed), (⟨0, 0, 0, 0, dz⟩ : Claim)⟩ : Entry)⟩ : Item)) (b := 1) (blk := bxB 110 (Zab (⟨0, (⟨0, 0, 0, ⟨#[]⟩, (⟨(⟨0, 0, 0, dz, 0⟩ : Head), 0, dz⟩ : Signed), (⟨0, 0, 0, 0, dz⟩ : Claim)⟩ : Entry)⟩ : Item))) (H' := [rdB l, bxB 110 (Zab (⟨0, (⟨0, 0, 0, ⟨#[]⟩, (⟨(⟨0, 0, 0, dz, 0⟩ : Head), 0, dz⟩ : Signed), (⟨0, 0, 0, 0, dz⟩ : Claim)⟩ : Entry)⟩ : Item)), txB ((Ze l 2).1), hole, hole, hole]) rfl rfl rfl (by kernel_rfl) (by kernel_rfl) ?_
  refine Zb rfl rfl (Iv 60) rfl (Za (Zc (Zv (Z5 (Zu ?_)))))
  rw [show Zal l = (⟨0, zE⟩, 60) from by first | exact Zga (.inl (by assumption)) | exact Zga (.inr (.inl (by omega))) | exact Zga (.inr (.inr (of_decide_eq_false (by assumption))))]
  exact Zm (v := .tuple #[Za4 (⟨0, (⟨0, 0, 0, ⟨#[]⟩, (⟨(⟨0, 0, 0, dz, 0⟩ : Head), 0, dz⟩ : Signed), (⟨0, 0, 0, 0, dz⟩ : Claim)⟩ : Entry)⟩ : Item), Iv 60]) (by kernel_rfl) rfl rfl (by simp [Zac, rdB]) ⟨(Zbd (by kernel_rfl) rfl), rfl, trivial⟩
end Go.Flat
