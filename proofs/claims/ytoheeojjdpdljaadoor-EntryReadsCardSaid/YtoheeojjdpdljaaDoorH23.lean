/- Walks. -/
import Derived.Test.YtoheeojjdpdljaaDoorH19
set_option linter.unusedVariables false
set_option linter.unusedSimpArgs false
set_option maxRecDepth 20000
namespace Go.Flat
open Go.Proofs
variable {G : Glob}
theorem Zx6 (l : Bs) (n : Nat) : (Za2 l n).1.data.size ≤ l.length := by
 unfold Za2
 repeat' split
 all_goals first | exact Nat.zero_le _ | (dsimp only; rw [Zbc, List.length_take, List.length_drop]; omega)
theorem Zlf (M : Nat) : ∀ (f : Nat) (l : Bs) (last : Int) (acc : List Field), l.length ≤ M → (∀ x, x ∈ acc → x.data.size ≤ M) → ∀ x, x ∈ (Zde f l last acc).1 → x.data.size ≤ M
 | 0, l, last, acc, h, ha => by simpa [Zde] using ha
 | f + 1, l, last, acc, h, ha => by
  rw [Zde]
  split
  ·exact ha
  ·split
   ·intro x hx; simp at hx
   ·split
    ·intro x hx; simp at hx
    ·refine Zlf M f _ _ _ (by rw [List.length_drop]; omega) (fun x hx => ?_)
     rcases List.mem_append.1 hx with hx | hx
     ·exact ha x hx
     ·rw [List.mem_singleton.1 hx]; exact Nat.le_trans (Zx6 _ _) h
theorem Zta (M : Nat) : ∀ (fs : List Field) (i : Nat) (ok : Bool) (acc : List ByteArray), (∀ x, x ∈ fs → x.data.size ≤ M) → (∀ x, x ∈ acc → x.size ≤ M) → ∀ x, x ∈ (ofL fs i ok acc).2 → x.size ≤ M
 | [], i, ok, acc, h, ha => ha
 | f :: fs, i, ok, acc, h, ha => by
  rw [ofL]
  refine Zta M fs _ _ _ (fun x hx => h x (by simp [hx])) (fun x hx => ?_)
  rcases List.mem_append.1 hx with hx | hx
  ·exact ha x hx
  ·rw [List.mem_singleton.1 hx]; exact h f (by simp)
theorem Zxl {l : Bs} {M : Nat} (h : l.length ≤ M) (i : Nat) : ((ofF l).2.getD i ⟨#[]⟩).size ≤ M :=
 Zqd (Zta M _ _ _ _ (Zlf M _ _ _ _ h (fun x hx => by simp at hx)) (fun x hx => by simp at hx)) i
def Zb9 (l : Bs) : Signed × Int :=
  if (((((((ofF l).1) && decide ((pK ((ofF l).2.length) 0) < ((ofF l).2.length))) && decide ((pK ((ofF l).2.length) 1) < ((ofF l).2.length))) && decide ((Zq (((ofF l).2).getD (pK ((ofF l).2.length) 1) ⟨#[]⟩)).2 = 0)) && decide ((pK ((ofF l).2.length) 2) < ((ofF l).2.length))) && decide ((((ofF l).2).getD (pK ((ofF l).2.length) 2) ⟨#[]⟩).size = 32)) = true then (if ((Zax (bl (((ofF l).2).getD (pK ((ofF l).2.length) 0) ⟨#[]⟩))).2) ≠ 0 then ((⟨(⟨0, 0, 0, dz, 0⟩ : Head), 0, dz⟩ : Signed), 70) else
  if 0 < (((Zak ((ofF l).2.length) (pK ((ofF l).2.length) 3)) : Nat) : Int) then ((⟨(⟨0, 0, 0, dz, 0⟩ : Head), 0, dz⟩ : Signed), 70) else
  if 1 ≤ ((Zq (((ofF l).2).getD (pK ((ofF l).2.length) 1) ⟨#[]⟩)).1) then (if ((Zq (((ofF l).2).getD (pK ((ofF l).2.length) 1) ⟨#[]⟩)).1) ≤ 3 then ((⟨(Zax (bl (((ofF l).2).getD (pK ((ofF l).2.length) 0) ⟨#[]⟩))).1, ((Zq (((ofF l).2).getD (pK ((ofF l).2.length) 1) ⟨#[]⟩)).1), (Zc8 ((((((ofF l).1) && decide ((pK ((ofF l).2.length) 0) < ((ofF l).2.length))) && decide ((pK ((ofF l).2.length) 1) < ((ofF l).2.length))) && decide ((Zq (((ofF l).2).getD (pK ((ofF l).2.length) 1) ⟨#[]⟩)).2 = 0)) && decide ((pK ((ofF l).2.length) 2) < ((ofF l).2.length))) (((ofF l).2).getD (pK ((ofF l).2.length) 2) ⟨#[]⟩))⟩ : Signed), 0) else
  ((⟨(⟨0, 0, 0, dz, 0⟩ : Head), 0, dz⟩ : Signed), 70)) else
  ((⟨(⟨0, 0, 0, dz, 0⟩ : Head), 0, dz⟩ : Signed), 70)) else
  ((⟨(⟨0, 0, 0, dz, 0⟩ : Head), 0, dz⟩ : Signed), 70)
theorem Zp5 (l : Bs) (n c : Nat) (hn : l.length = n) (hc : n ≤ c) (hb : n ≤ 1099511627776) (hb' : l.length ≤ 1099511627776) : Zao Tryd.prog G 41 [slv 0 0 n c] [rdB l] (.tuple #[Zaa (Zb9 l).1, Iv (Zb9 l).2]) [rdB l] := by
  refine Zbv (fn := Tryd.f41) (nt := 47) rfl rfl rfl rfl ?_
  refine Zat 7 (H' := [rdB l, hole, hole, hole, hole, hole, hole, hole]) rfl ?_
  refine Zg (Zi ?_)
  refine Zae (b := bxB 69 (Z3 (⟨(⟨0, 0, 0, dz, 0⟩ : Head), 0, dz⟩ : Signed))) (nid := 1) (H' := [rdB l, bxB 69 (Z3 (⟨(⟨0, 0, 0, dz, 0⟩ : Head), 0, dz⟩ : Signed)), hole, hole, hole, hole, hole, hole]) rfl rfl (by kernel_rfl) (by kernel_rfl) ?_
  refine Zb rfl rfl (Iv 0) rfl (Za (Zc (Zg (Zi ?_))))
  refine Zae (b := bxB 1 ([.bool false])) (nid := 2) (H' := [rdB l, bxB 69 (Z3 (⟨(⟨0, 0, 0, dz, 0⟩ : Head), 0, dz⟩ : Signed)), bxB 1 ([.bool false]), hole, hole, hole, hole, hole]) rfl rfl (by kernel_rfl) (by kernel_rfl) ?_
  refine Za (Zc (Zg (Zi (Zd rfl rfl (slv 0 0 n c) rfl ?_))))
  have hrm14 : Zak (oN l) (pK (oN l) 0) + pK (oN l) 0 = (oN l) := Zfc (Nat.zero_le _)
  refine Zad (e := [some (0, 0), some (2, 0)]) (nid := 3) (Zzz (G := G) l n c false hn (by omega) (by omega)) (vals := [slv 0 0 n c, pt 2 0]) (v := pt 3 0) (H' := [rdB l, bxB 69 (Z3 (⟨(⟨0, 0, 0, dz, 0⟩ : Head), 0, dz⟩ : Signed)), bxB 1 ([.bool ((ofF l).1)]), rfB (slv 4 (pK (oN l) 0) (Zak (oN l) (pK (oN l) 0)) (Zak (oN l) (pK (oN l) 0))), txB ((ofF l).2), hole, hole, hole]) rfl rfl rfl rfl rfl rfl rfl ⟨⟨⟨rfl, rfl, rfl, by first | omega | exact Nat.le_refl _, by first | omega | exact Nat.le_refl _⟩, ⟨rfl, rfl⟩, trivial⟩, ⟨(Zdk rfl), (Zay rfl rfl rfl rfl), trivial⟩, rfl, rfl, rfl⟩ (by kernel_rfl) (by kernel_rfl) ?_
  refine Zb rfl rfl (pt 3 0) rfl (Za (Zc (Zg (Zi (Zd rfl rfl (pt 3 0) rfl ?_)))))
  have hpk15 := Zg6 (oN l) 1
  have hrm15 : Zak (oN l) (pK (oN l) 1) + (pK (oN l) 1) = (oN l) := Zfc hpk15
  refine Zad (e := [some (3, 0), some (4, 0), some (2, 0)]) (nid := 0) (Zr0 (G := G) ((ofF l).2) (oN l) (pK (oN l) 0) ((ofF l).1) rfl (Zg6 (oN l) 0)) (vals := [pt 3 0, pt 2 0]) (v := .string (oG l 0)) (H' := [rdB l, bxB 69 (Z3 (⟨(⟨0, 0, 0, dz, 0⟩ : Head), 0, dz⟩ : Signed)), bxB 1 ([.bool (((ofF l).1) && oP l 0)]), rfB (slv 4 (pK (oN l) 1) (Zak (oN l) (pK (oN l) 1)) (Zak (oN l) (pK (oN l) 1))), txB ((ofF l).2), hole, hole, hole]) rfl rfl rfl rfl rfl rfl rfl ⟨⟨⟨rfl, rfl⟩, ⟨rfl, rfl⟩, trivial⟩, ⟨(Zay rfl rfl rfl (by show [_] = [Zdq _ _]; simp [Zdq, Zct])), (Zg9 rfl), (Zay rfl rfl rfl rfl), trivial⟩, rfl, rfl, rfl⟩ (by kernel_rfl) (Eq.trans (b := [rdB l, bxB 69 (Z3 (⟨(⟨0, 0, 0, dz, 0⟩ : Head), 0, dz⟩ : Signed)), bxB 1 ([.bool (((ofF l).1) && oP l 0)]), rfB (slv 4 (0 + (pK (oN l) 1)) (Zak (oN l) (pK (oN l) 1)) (Zak (oN l) (pK (oN l) 1))), txB ((ofF l).2), hole, hole, hole]) (by kernel_rfl) (by rw [Nat.zero_add])) ?_
  refine Zew (p := .string (oG l 0)) (v := slv 5 0 ((oG l 0).size) ((oG l 0).size)) (blk := Zy (bl (oG l 0))) (nid := 5) (H' := [rdB l, bxB 69 (Z3 (⟨(⟨0, 0, 0, dz, 0⟩ : Head), 0, dz⟩ : Signed)), bxB 1 ([.bool (((ofF l).1) && oP l 0)]), rfB (slv 4 (pK (oN l) 1) (Zak (oN l) (pK (oN l) 1)) (Zak (oN l) (pK (oN l) 1))), txB ((ofF l).2), Zy (bl (oG l 0)), hole, hole]) rfl rfl rfl (Zfq rfl rfl rfl) (by kernel_rfl) ?_
  have hsz16 := Zxl hb' 0
  refine Zad (e := [some (5, 0)]) (nid := 0) (Z2z (G := G) (bl (oG l 0)) ((oG l 0).size) ((oG l 0).size) (Zb5 (oG l 0)) (by omega) hsz16) (vals := [slv 5 0 ((oG l 0).size) ((oG l 0).size)]) (v := .tuple #[Zbf ((Zax (bl (oG l 0))).1), Iv ((Zax (bl (oG l 0))).2)]) (H' := [rdB l, bxB 69 (Z3 (⟨(⟨0, 0, 0, dz, 0⟩ : Head), 0, dz⟩ : Signed)), bxB 1 ([.bool (((ofF l).1) && oP l 0)]), rfB (slv 4 (pK (oN l) 1) (Zak (oN l) (pK (oN l) 1)) (Zak (oN l) (pK (oN l) 1))), txB ((ofF l).2), Zy (bl (oG l 0)), hole, hole]) rfl rfl rfl rfl rfl rfl rfl ⟨⟨⟨rfl, rfl, rfl, by first | omega | exact Nat.le_refl _, by first | omega | exact Nat.le_refl _⟩, trivial⟩, ⟨(Ze1 rfl), trivial⟩, rfl, rfl, rfl⟩ (by kernel_rfl) (by kernel_rfl) ?_
  refine Zd rfl rfl (.tuple #[Zbf ((Zax (bl (oG l 0))).1), Iv ((Zax (bl (oG l 0))).2)]) rfl (Zt (vs := #[Zbf ((Zax (bl (oG l 0))).1), Iv ((Zax (bl (oG l 0))).2)]) (v := Zbf ((Zax (bl (oG l 0))).1)) rfl rfl rfl rfl (Zt (vs := #[Zbf ((Zax (bl (oG l 0))).1), Iv ((Zax (bl (oG l 0))).2)]) (v := Iv ((Zax (bl (oG l 0))).2)) rfl rfl rfl rfl ?_))
  refine Zae (b := bxB 36 (Zan (⟨0, 0, 0, dz, 0⟩ : Head))) (nid := 6) (H' := [rdB l, bxB 69 (Z3 (⟨(⟨0, 0, 0, dz, 0⟩ : Head), 0, dz⟩ : Signed)), bxB 1 ([.bool (((ofF l).1) && oP l 0)]), rfB (slv 4 (pK (oN l) 1) (Zak (oN l) (pK (oN l) 1)) (Zak (oN l) (pK (oN l) 1))), txB ((ofF l).2), Zy (bl (oG l 0)), bxB 36 (Zan (⟨0, 0, 0, dz, 0⟩ : Head)), hole]) rfl rfl (by kernel_rfl) (by kernel_rfl) ?_
  refine Zr (p := pt 6 0) (v := Zbf ((Zax (bl (oG l 0))).1)) (b := 6) (blk := bxB 36 (Zan ((Zax (bl (oG l 0))).1))) (H' := [rdB l, bxB 69 (Z3 (⟨(⟨0, 0, 0, dz, 0⟩ : Head), 0, dz⟩ : Signed)), bxB 1 ([.bool (((ofF l).1) && oP l 0)]), rfB (slv 4 (pK (oN l) 1) (Zak (oN l) (pK (oN l) 1)) (Zak (oN l) (pK (oN l) 1))), txB ((ofF l).2), Zy (bl (oG l 0)), bxB 36 (Zan ((Zax (bl (oG l 0))).1)), hole]) rfl rfl rfl (by kernel_rfl) (by kernel_rfl) ?_
  refine Zb rfl rfl (Iv ((Zax (bl (oG l 0))).2)) rfl (Za (Zc (Zg (Zi ?_))))
  refine Zo (p := pt 6 0) (v := Zbf ((Zax (bl (oG l 0))).1)) rfl rfl rfl (by kernel_rfl) ?_
  refine Zaw (vs := [(0, Zbf ((Zax (bl (oG l 0))).1))]) (v := Zaa (⟨(Zax (bl (oG l 0))).1, 0, dz⟩ : Signed)) rfl rfl rfl (by kernel_rfl) ?_
  refine Zae (b := bxB 69 (Z3 (⟨(⟨0, 0, 0, dz, 0⟩ : Head), 0, dz⟩ : Signed))) (nid := 7) (H' := [rdB l, bxB 69 (Z3 (⟨(⟨0, 0, 0, dz, 0⟩ : Head), 0, dz⟩ : Signed)), bxB 1 ([.bool (((ofF l).1) && oP l 0)]), rfB (slv 4 (pK (oN l) 1) (Zak (oN l) (pK (oN l) 1)) (Zak (oN l) (pK (oN l) 1))), txB ((ofF l).2), Zy (bl (oG l 0)), bxB 36 (Zan ((Zax (bl (oG l 0))).1)), bxB 69 (Z3 (⟨(⟨0, 0, 0, dz, 0⟩ : Head), 0, dz⟩ : Signed))]) rfl rfl (by kernel_rfl) (by kernel_rfl) ?_
  refine Zr (p := pt 7 0) (v := Zaa (⟨(Zax (bl (oG l 0))).1, 0, dz⟩ : Signed)) (b := 7) (blk := bxB 69 (Z3 (⟨(Zax (bl (oG l 0))).1, 0, dz⟩ : Signed))) (H' := [rdB l, bxB 69 (Z3 (⟨(⟨0, 0, 0, dz, 0⟩ : Head), 0, dz⟩ : Signed)), bxB 1 ([.bool (((ofF l).1) && oP l 0)]), rfB (slv 4 (pK (oN l) 1) (Zak (oN l) (pK (oN l) 1)) (Zak (oN l) (pK (oN l) 1))), txB ((ofF l).2), Zy (bl (oG l 0)), bxB 36 (Zan ((Zax (bl (oG l 0))).1)), bxB 69 (Z3 (⟨(Zax (bl (oG l 0))).1, 0, dz⟩ : Signed))]) rfl rfl rfl (by kernel_rfl) (by kernel_rfl) ?_
  refine Za (Zc (Zg (Zi (Zd rfl rfl (pt 3 0) rfl ?_))))
  have hpk17 := Zg6 (oN l) 2
  have hrm17 : Zak (oN l) (pK (oN l) 2) + (pK (oN l) 2) = (oN l) := Zfc hpk17
  refine Zad (e := [some (3, 0), some (4, 0), some (2, 0)]) (nid := 0) (Ziy (G := G) ((ofF l).2) (oN l) (pK (oN l) 1) (((ofF l).1) && oP l 0) rfl (Zg6 (oN l) 1)) (vals := [pt 3 0, pt 2 0]) (v := Iv ((Zq (oG l 1)).1)) (H' := [rdB l, bxB 69 (Z3 (⟨(⟨0, 0, 0, dz, 0⟩ : Head), 0, dz⟩ : Signed)), bxB 1 ([.bool (((((ofF l).1) && oP l 0) && oP l 1) && decide ((Zq (oG l 1)).2 = 0))]), rfB (slv 4 (pK (oN l) 2) (Zak (oN l) (pK (oN l) 2)) (Zak (oN l) (pK (oN l) 2))), txB ((ofF l).2), Zy (bl (oG l 0)), bxB 36 (Zan ((Zax (bl (oG l 0))).1)), bxB 69 (Z3 (⟨(Zax (bl (oG l 0))).1, 0, dz⟩ : Signed))]) rfl rfl rfl rfl rfl rfl rfl ⟨⟨⟨rfl, rfl⟩, ⟨rfl, rfl⟩, trivial⟩, ⟨(Zay rfl rfl rfl (by show [_] = [Zdq _ _]; simp [Zdq, Zct])), (Zg9 rfl), (Zay rfl rfl rfl rfl), trivial⟩, rfl, rfl, rfl⟩ (by kernel_rfl) (Eq.trans (b := [rdB l, bxB 69 (Z3 (⟨(⟨0, 0, 0, dz, 0⟩ : Head), 0, dz⟩ : Signed)), bxB 1 ([.bool (((((ofF l).1) && oP l 0) && oP l 1) && decide ((Zq (oG l 1)).2 = 0))]), rfB (slv 4 (0 + (pK (oN l) 2)) (Zak (oN l) (pK (oN l) 2)) (Zak (oN l) (pK (oN l) 2))), txB ((ofF l).2), Zy (bl (oG l 0)), bxB 36 (Zan ((Zax (bl (oG l 0))).1)), bxB 69 (Z3 (⟨(Zax (bl (oG l 0))).1, 0, dz⟩ : Signed))]) (by kernel_rfl) (by rw [Nat.zero_add])) ?_
  refine Zj (b := 7) (o := 0) (n := 36) (o' := 36) rfl rfl rfl rfl rfl ?_
  refine Zr (p := pt 7 36) (v := Iv ((Zq (oG l 1)).1)) (b := 7) (blk := bxB 69 (Z3 (⟨(Zax (bl (oG l 0))).1, ((Zq (oG l 1)).1), dz⟩ : Signed))) (H' := [rdB l, bxB 69 (Z3 (⟨(⟨0, 0, 0, dz, 0⟩ : Head), 0, dz⟩ : Signed)), bxB 1 ([.bool (((((ofF l).1) && oP l 0) && oP l 1) && decide ((Zq (oG l 1)).2 = 0))]), rfB (slv 4 (pK (oN l) 2) (Zak (oN l) (pK (oN l) 2)) (Zak (oN l) (pK (oN l) 2))), txB ((ofF l).2), Zy (bl (oG l 0)), bxB 36 (Zan ((Zax (bl (oG l 0))).1)), bxB 69 (Z3 (⟨(Zax (bl (oG l 0))).1, ((Zq (oG l 1)).1), dz⟩ : Signed))]) rfl rfl rfl (by kernel_rfl) (by kernel_rfl) ?_
  refine Za (Zc (Zg (Zi (Zd rfl rfl (pt 3 0) rfl ?_))))
  have hpk18 := Zg6 (oN l) 3
  have hrm18 : Zak (oN l) (pK (oN l) 3) + (pK (oN l) 3) = (oN l) := Zfc hpk18
  refine Zad (e := [some (3, 0), some (4, 0), some (2, 0)]) (nid := 0) (Zre (G := G) ((ofF l).2) (oN l) (pK (oN l) 2) (((((ofF l).1) && oP l 0) && oP l 1) && decide ((Zq (oG l 1)).2 = 0)) rfl (Zg6 (oN l) 2)) (vals := [pt 3 0, pt 2 0]) (v := dgV (Zc8 ((((((ofF l).1) && oP l 0) && oP l 1) && decide ((Zq (oG l 1)).2 = 0)) && oP l 2) (oG l 2))) (H' := [rdB l, bxB 69 (Z3 (⟨(⟨0, 0, 0, dz, 0⟩ : Head), 0, dz⟩ : Signed)), bxB 1 ([.bool (((((((ofF l).1) && oP l 0) && oP l 1) && decide ((Zq (oG l 1)).2 = 0)) && oP l 2) && decide ((oG l 2).size = 32))]), rfB (slv 4 (pK (oN l) 3) (Zak (oN l) (pK (oN l) 3)) (Zak (oN l) (pK (oN l) 3))), txB ((ofF l).2), Zy (bl (oG l 0)), bxB 36 (Zan ((Zax (bl (oG l 0))).1)), bxB 69 (Z3 (⟨(Zax (bl (oG l 0))).1, ((Zq (oG l 1)).1), dz⟩ : Signed))]) rfl rfl rfl rfl rfl rfl rfl ⟨⟨⟨rfl, rfl⟩, ⟨rfl, rfl⟩, trivial⟩, ⟨(Zay rfl rfl rfl (by show [_] = [Zdq _ _]; simp [Zdq, Zct])), (Zg9 rfl), (Zay rfl rfl rfl rfl), trivial⟩, rfl, rfl, rfl⟩ (by kernel_rfl) (Eq.trans (b := [rdB l, bxB 69 (Z3 (⟨(⟨0, 0, 0, dz, 0⟩ : Head), 0, dz⟩ : Signed)), bxB 1 ([.bool (((((((ofF l).1) && oP l 0) && oP l 1) && decide ((Zq (oG l 1)).2 = 0)) && oP l 2) && decide ((oG l 2).size = 32))]), rfB (slv 4 (0 + (pK (oN l) 3)) (Zak (oN l) (pK (oN l) 3)) (Zak (oN l) (pK (oN l) 3))), txB ((ofF l).2), Zy (bl (oG l 0)), bxB 36 (Zan ((Zax (bl (oG l 0))).1)), bxB 69 (Z3 (⟨(Zax (bl (oG l 0))).1, ((Zq (oG l 1)).1), dz⟩ : Signed))]) (by kernel_rfl) (by rw [Nat.zero_add])) ?_
  refine Zj (b := 7) (o := 0) (n := 37) (o' := 37) rfl rfl rfl rfl rfl ?_
  refine Zr (p := pt 7 37) (v := dgV (Zc8 ((((((ofF l).1) && oP l 0) && oP l 1) && decide ((Zq (oG l 1)).2 = 0)) && oP l 2) (oG l 2))) (b := 7) (blk := bxB 69 (Z3 (⟨(Zax (bl (oG l 0))).1, ((Zq (oG l 1)).1), (Zc8 ((((((ofF l).1) && oP l 0) && oP l 1) && decide ((Zq (oG l 1)).2 = 0)) && oP l 2) (oG l 2))⟩ : Signed))) (H' := [rdB l, bxB 69 (Z3 (⟨(⟨0, 0, 0, dz, 0⟩ : Head), 0, dz⟩ : Signed)), bxB 1 ([.bool (((((((ofF l).1) && oP l 0) && oP l 1) && decide ((Zq (oG l 1)).2 = 0)) && oP l 2) && decide ((oG l 2).size = 32))]), rfB (slv 4 (pK (oN l) 3) (Zak (oN l) (pK (oN l) 3)) (Zak (oN l) (pK (oN l) 3))), txB ((ofF l).2), Zy (bl (oG l 0)), bxB 36 (Zan ((Zax (bl (oG l 0))).1)), bxB 69 (Z3 (⟨(Zax (bl (oG l 0))).1, ((Zq (oG l 1)).1), (Zc8 ((((((ofF l).1) && oP l 0) && oP l 1) && decide ((Zq (oG l 1)).2 = 0)) && oP l 2) (oG l 2))⟩ : Signed))]) rfl rfl rfl (by kernel_rfl) (by kernel_rfl) ?_
  refine Za (Zc (Zg (Zg (Zi ?_))))
  refine Zo (p := pt 2 0) (v := .bool (((((((ofF l).1) && oP l 0) && oP l 1) && decide ((Zq (oG l 1)).2 = 0)) && oP l 2) && decide ((oG l 2).size = 32))) rfl rfl rfl (by kernel_rfl) ?_
  rcases Bool.eq_false_or_eq_true (((((((ofF l).1) && oP l 0) && oP l 1) && decide ((Zq (oG l 1)).2 = 0)) && oP l 2) && decide ((oG l 2).size = 32)) with h1 | h1
  refine Zef (vx := .bool (((((((ofF l).1) && oP l 0) && oP l 1) && decide ((Zq (oG l 1)).2 = 0)) && oP l 2) && decide ((oG l 2).size = 32))) rfl rfl (.bool false) rfl (Eq.trans Zb1 (congrArg (fun b => some (Value.bool !b)) h1)) ?_
  refine Zd rfl rfl (.bool false) rfl (Zd rfl rfl (Iv ((Zax (bl (oG l 0))).2)) rfl ?_)
  by_cases h2 : ((Zax (bl (oG l 0))).2) ≠ 0
  refine Zn (vx := Iv ((Zax (bl (oG l 0))).2)) (vy := Iv 0) rfl rfl (.bool true) rfl rfl (Zeg (by omega)) ?_
  refine Zk rfl rfl (.bool true) rfl (Zd rfl rfl (.bool true) rfl (Zf rfl rfl (Zf rfl rfl (Zf rfl rfl (Zf rfl rfl (Zf rfl rfl (Zk rfl rfl (.bool true) rfl (Zd rfl rfl (.bool true) rfl (Zf rfl rfl (Zf rfl rfl (Zf rfl rfl (Zf rfl rfl (Zk rfl rfl (.bool true) rfl (Za (Zc (Z0 rfl (Zg (Zi ?_))))))))))))))))))
  refine Zaw (vs := []) (v := Zaa (⟨(⟨0, 0, 0, dz, 0⟩ : Head), 0, dz⟩ : Signed)) rfl rfl rfl (by kernel_rfl) ?_
  refine Zr (p := pt 1 0) (v := Zaa (⟨(⟨0, 0, 0, dz, 0⟩ : Head), 0, dz⟩ : Signed)) (b := 1) (blk := bxB 69 (Z3 (⟨(⟨0, 0, 0, dz, 0⟩ : Head), 0, dz⟩ : Signed))) (H' := [rdB l, bxB 69 (Z3 (⟨(⟨0, 0, 0, dz, 0⟩ : Head), 0, dz⟩ : Signed)), bxB 1 ([.bool (((((((ofF l).1) && oP l 0) && oP l 1) && decide ((Zq (oG l 1)).2 = 0)) && oP l 2) && decide ((oG l 2).size = 32))]), rfB (slv 4 (pK (oN l) 3) (Zak (oN l) (pK (oN l) 3)) (Zak (oN l) (pK (oN l) 3))), txB ((ofF l).2), Zy (bl (oG l 0)), bxB 36 (Zan ((Zax (bl (oG l 0))).1)), bxB 69 (Z3 (⟨(Zax (bl (oG l 0))).1, ((Zq (oG l 1)).1), (Zc8 ((((((ofF l).1) && oP l 0) && oP l 1) && decide ((Zq (oG l 1)).2 = 0)) && oP l 2) (oG l 2))⟩ : Signed))]) rfl rfl rfl (by kernel_rfl) (by kernel_rfl) ?_
  refine Zb rfl rfl (Iv 70) rfl (Za (Zc (Zv (Z5 (Zu ?_)))))
  rw [show Zb9 l = ((⟨(⟨0, 0, 0, dz, 0⟩ : Head), 0, dz⟩ : Signed), 70) from by unfold Zb9; rw [if_pos h1, if_pos h2]]
  exact Zm (v := .tuple #[Zaa (⟨(⟨0, 0, 0, dz, 0⟩ : Head), 0, dz⟩ : Signed), Iv 70]) (by kernel_rfl) rfl rfl (by simp [Zac, rdB]) ⟨(Zbd (by kernel_rfl) rfl), rfl, trivial⟩
  refine Zn (vx := Iv ((Zax (bl (oG l 0))).2)) (vy := Iv 0) rfl rfl (.bool false) rfl rfl (Zds (by omega)) ?_
  refine Zk rfl rfl (.bool false) rfl (Zd rfl rfl (.bool false) rfl (Zd rfl rfl (pt 3 0) rfl ?_))
  refine Zag (p := pt 3 0) (v := pt 3 0) rfl rfl rfl rfl ?_
  refine Zo (p := pt 3 0) (v := slv 4 (pK (oN l) 3) (Zak (oN l) (pK (oN l) 3)) (Zak (oN l) (pK (oN l) 3))) rfl rfl rfl rfl ?_
  refine Zb7 (p := slv 4 (pK (oN l) 3) (Zak (oN l) (pK (oN l) 3)) (Zak (oN l) (pK (oN l) 3))) (v := Iv (((Zak (oN l) (pK (oN l) 3)) : Nat) : Int)) rfl rfl rfl rfl ?_
  by_cases h3 : 0 < (((Zak (oN l) (pK (oN l) 3)) : Nat) : Int)
  refine Zn (vx := Iv (((Zak (oN l) (pK (oN l) 3)) : Nat) : Int)) (vy := Iv 0) rfl rfl (.bool true) rfl rfl (Zf1 (by omega)) ?_
  refine Zk rfl rfl (.bool true) rfl (Zd rfl rfl (.bool true) rfl (Zf rfl rfl (Zf rfl rfl (Zf rfl rfl (Zf rfl rfl (Zk rfl rfl (.bool true) rfl (Za (Zc (Z0 rfl (Zg (Zi ?_)))))))))))
  refine Zaw (vs := []) (v := Zaa (⟨(⟨0, 0, 0, dz, 0⟩ : Head), 0, dz⟩ : Signed)) rfl rfl rfl (by kernel_rfl) ?_
  refine Zr (p := pt 1 0) (v := Zaa (⟨(⟨0, 0, 0, dz, 0⟩ : Head), 0, dz⟩ : Signed)) (b := 1) (blk := bxB 69 (Z3 (⟨(⟨0, 0, 0, dz, 0⟩ : Head), 0, dz⟩ : Signed))) (H' := [rdB l, bxB 69 (Z3 (⟨(⟨0, 0, 0, dz, 0⟩ : Head), 0, dz⟩ : Signed)), bxB 1 ([.bool (((((((ofF l).1) && oP l 0) && oP l 1) && decide ((Zq (oG l 1)).2 = 0)) && oP l 2) && decide ((oG l 2).size = 32))]), rfB (slv 4 (pK (oN l) 3) (Zak (oN l) (pK (oN l) 3)) (Zak (oN l) (pK (oN l) 3))), txB ((ofF l).2), Zy (bl (oG l 0)), bxB 36 (Zan ((Zax (bl (oG l 0))).1)), bxB 69 (Z3 (⟨(Zax (bl (oG l 0))).1, ((Zq (oG l 1)).1), (Zc8 ((((((ofF l).1) && oP l 0) && oP l 1) && decide ((Zq (oG l 1)).2 = 0)) && oP l 2) (oG l 2))⟩ : Signed))]) rfl rfl rfl (by kernel_rfl) (by kernel_rfl) ?_
  refine Zb rfl rfl (Iv 70) rfl (Za (Zc (Zv (Z5 (Zu ?_)))))
  rw [show Zb9 l = ((⟨(⟨0, 0, 0, dz, 0⟩ : Head), 0, dz⟩ : Signed), 70) from by unfold Zb9; rw [if_pos h1, if_neg h2, if_pos h3]]
  exact Zm (v := .tuple #[Zaa (⟨(⟨0, 0, 0, dz, 0⟩ : Head), 0, dz⟩ : Signed), Iv 70]) (by kernel_rfl) rfl rfl (by simp [Zac, rdB]) ⟨(Zbd (by kernel_rfl) rfl), rfl, trivial⟩
  refine Zn (vx := Iv (((Zak (oN l) (pK (oN l) 3)) : Nat) : Int)) (vy := Iv 0) rfl rfl (.bool false) rfl rfl (Zf8 (by omega)) ?_
  refine Zk rfl rfl (.bool false) rfl (Zd rfl rfl (.bool false) rfl ?_)
  refine Zj (b := 7) (o := 0) (n := 36) (o' := 36) rfl rfl rfl rfl rfl ?_
  refine Zo (p := pt 7 36) (v := Iv ((Zq (oG l 1)).1)) rfl rfl rfl (by kernel_rfl) ?_
  by_cases h4 : 1 ≤ ((Zq (oG l 1)).1)
  by_cases h5 : ((Zq (oG l 1)).1) ≤ 3
  refine Zs ((Zcs (G := G) ((Zq (oG l 1)).1) 1 3).res (congrArg Value.bool (Zbg (by omega) (by omega)))) (vals := [Iv ((Zq (oG l 1)).1), Iv 1, Iv 3]) (res' := .bool true) rfl rfl rfl rfl rfl rfl ?_
  refine Zef (vx := .bool true) rfl rfl (.bool false) rfl Zb1 ?_
  refine Zk rfl rfl (.bool false) rfl (Za (Zc (Zx rfl (Zai (Zc (Zg (Zi ?_)))))))
  refine Zo (p := pt 7 0) (v := Zaa (⟨(Zax (bl (oG l 0))).1, ((Zq (oG l 1)).1), (Zc8 ((((((ofF l).1) && oP l 0) && oP l 1) && decide ((Zq (oG l 1)).2 = 0)) && oP l 2) (oG l 2))⟩ : Signed)) rfl rfl rfl (by kernel_rfl) ?_
  refine Zr (p := pt 1 0) (v := Zaa (⟨(Zax (bl (oG l 0))).1, ((Zq (oG l 1)).1), (Zc8 ((((((ofF l).1) && oP l 0) && oP l 1) && decide ((Zq (oG l 1)).2 = 0)) && oP l 2) (oG l 2))⟩ : Signed)) (b := 1) (blk := bxB 69 (Z3 (⟨(Zax (bl (oG l 0))).1, ((Zq (oG l 1)).1), (Zc8 ((((((ofF l).1) && oP l 0) && oP l 1) && decide ((Zq (oG l 1)).2 = 0)) && oP l 2) (oG l 2))⟩ : Signed))) (H' := [rdB l, bxB 69 (Z3 (⟨(Zax (bl (oG l 0))).1, ((Zq (oG l 1)).1), (Zc8 ((((((ofF l).1) && oP l 0) && oP l 1) && decide ((Zq (oG l 1)).2 = 0)) && oP l 2) (oG l 2))⟩ : Signed)), bxB 1 ([.bool (((((((ofF l).1) && oP l 0) && oP l 1) && decide ((Zq (oG l 1)).2 = 0)) && oP l 2) && decide ((oG l 2).size = 32))]), rfB (slv 4 (pK (oN l) 3) (Zak (oN l) (pK (oN l) 3)) (Zak (oN l) (pK (oN l) 3))), txB ((ofF l).2), Zy (bl (oG l 0)), bxB 36 (Zan ((Zax (bl (oG l 0))).1)), bxB 69 (Z3 (⟨(Zax (bl (oG l 0))).1, ((Zq (oG l 1)).1), (Zc8 ((((((ofF l).1) && oP l 0) && oP l 1) && decide ((Zq (oG l 1)).2 = 0)) && oP l 2) (oG l 2))⟩ : Signed))]) rfl rfl rfl (by kernel_rfl) (by kernel_rfl) ?_
  refine Zb rfl rfl (Iv 0) rfl (Za (Zc (Zv (Zu ?_))))
  rw [show Zb9 l = ((⟨(Zax (bl (oG l 0))).1, ((Zq (oG l 1)).1), (Zc8 ((((((ofF l).1) && oP l 0) && oP l 1) && decide ((Zq (oG l 1)).2 = 0)) && oP l 2) (oG l 2))⟩ : Signed), 0) from by unfold Zb9; rw [if_pos h1, if_neg h2, if_neg h3, if_pos h4, if_pos h5]]
  exact Zm (v := .tuple #[Zaa (⟨(Zax (bl (oG l 0))).1, ((Zq (oG l 1)).1), (Zc8 ((((((ofF l).1) && oP l 0) && oP l 1) && decide ((Zq (oG l 1)).2 = 0)) && oP l 2) (oG l 2))⟩ : Signed), Iv 0]) (by kernel_rfl) rfl rfl (by simp [Zac, rdB]) ⟨(Zbd (by kernel_rfl) rfl), rfl, trivial⟩
  refine Zs ((Zcs (G := G) ((Zq (oG l 1)).1) 1 3).res (congrArg Value.bool (Zah (by omega)))) (vals := [Iv ((Zq (oG l 1)).1), Iv 1, Iv 3]) (res' := .bool false) rfl rfl rfl rfl rfl rfl ?_
  refine Zef (vx := .bool false) rfl rfl (.bool true) rfl Zb1 ?_
  refine Zk rfl rfl (.bool true) rfl (Za (Zc (Z0 rfl (Zg (Zi ?_)))))
  refine Zaw (vs := []) (v := Zaa (⟨(⟨0, 0, 0, dz, 0⟩ : Head), 0, dz⟩ : Signed)) rfl rfl rfl (by kernel_rfl) ?_
  refine Zr (p := pt 1 0) (v := Zaa (⟨(⟨0, 0, 0, dz, 0⟩ : Head), 0, dz⟩ : Signed)) (b := 1) (blk := bxB 69 (Z3 (⟨(⟨0, 0, 0, dz, 0⟩ : Head), 0, dz⟩ : Signed))) (H' := [rdB l, bxB 69 (Z3 (⟨(⟨0, 0, 0, dz, 0⟩ : Head), 0, dz⟩ : Signed)), bxB 1 ([.bool (((((((ofF l).1) && oP l 0) && oP l 1) && decide ((Zq (oG l 1)).2 = 0)) && oP l 2) && decide ((oG l 2).size = 32))]), rfB (slv 4 (pK (oN l) 3) (Zak (oN l) (pK (oN l) 3)) (Zak (oN l) (pK (oN l) 3))), txB ((ofF l).2), Zy (bl (oG l 0)), bxB 36 (Zan ((Zax (bl (oG l 0))).1)), bxB 69 (Z3 (⟨(Zax (bl (oG l 0))).1, ((Zq (oG l 1)).1), (Zc8 ((((((ofF l).1) && oP l 0) && oP l 1) && decide ((Zq (oG l 1)).2 = 0)) && oP l 2) (oG l 2))⟩ : Signed))]) rfl rfl rfl (by kernel_rfl) (by kernel_rfl) ?_
  refine Zb rfl rfl (Iv 70) rfl (Za (Zc (Zv (Z5 (Zu ?_)))))
  rw [show Zb9 l = ((⟨(⟨0, 0, 0, dz, 0⟩ : Head), 0, dz⟩ : Signed), 70) from by unfold Zb9; rw [if_pos h1, if_neg h2, if_neg h3, if_pos h4, if_neg h5]]
  exact Zm (v := .tuple #[Zaa (⟨(⟨0, 0, 0, dz, 0⟩ : Head), 0, dz⟩ : Signed), Iv 70]) (by kernel_rfl) rfl rfl (by simp [Zac, rdB]) ⟨(Zbd (by kernel_rfl) rfl), rfl, trivial⟩
  refine Zs ((Zcs (G := G) ((Zq (oG l 1)).1) 1 3).res (congrArg Value.bool (Zah (by omega)))) (vals := [Iv ((Zq (oG l 1)).1), Iv 1, Iv 3]) (res' := .bool false) rfl rfl rfl rfl rfl rfl ?_
  refine Zef (vx := .bool false) rfl rfl (.bool true) rfl Zb1 ?_
  refine Zk rfl rfl (.bool true) rfl (Za (Zc (Z0 rfl (Zg (Zi ?_)))))
  refine Zaw (vs := []) (v := Zaa (⟨(⟨0, 0, 0, dz, 0⟩ : Head), 0, dz⟩ : Signed)) rfl rfl rfl (by kernel_rfl) ?_
  refine Zr (p := pt 1 0) (v := Zaa (⟨(⟨0, 0, 0, dz, 0⟩ : Head), 0, dz⟩ : Signed)) (b := 1) (blk := bxB 69 (Z3 (⟨(⟨0, 0, 0, dz, 0⟩ : Head), 0, dz⟩ : Signed))) (H' := [rdB l, bxB 69 (Z3 (⟨(⟨0, 0, 0, dz, 0⟩ : Head), 0, dz⟩ : Signed)), bxB 1 ([.bool (((((((ofF l).1) && oP l 0) && oP l 1) && decide ((Zq (oG l 1)).2 = 0)) && oP l 2) && decide ((oG l 2).size = 32))]), rfB (slv 4 (pK (oN l) 3) (Zak (oN l) (pK (oN l) 3)) (Zak (oN l) (pK (oN l) 3))), txB ((ofF l).2), Zy (bl (oG l 0)), bxB 36 (Zan ((Zax (bl (oG l 0))).1)), bxB 69 (Z3 (⟨(Zax (bl (oG l 0))).1, ((Zq (oG l 1)).1), (Zc8 ((((((ofF l).1) && oP l 0) && oP l 1) && decide ((Zq (oG l 1)).2 = 0)) && oP l 2) (oG l 2))⟩ : Signed))]) rfl rfl rfl (by kernel_rfl) (by kernel_rfl) ?_
  refine Zb rfl rfl (Iv 70) rfl (Za (Zc (Zv (Z5 (Zu ?_)))))
  rw [show Zb9 l = ((⟨(⟨0, 0, 0, dz, 0⟩ : Head), 0, dz⟩ : Signed), 70) from by unfold Zb9; rw [if_pos h1, if_neg h2, if_neg h3, if_neg h4]]
  exact Zm (v := .tuple #[Zaa (⟨(⟨0, 0, 0, dz, 0⟩ : Head), 0, dz⟩ : Signed), Iv 70]) (by kernel_rfl) rfl rfl (by simp [Zac, rdB]) ⟨(Zbd (by kernel_rfl) rfl), rfl, trivial⟩
  refine Zef (vx := .bool (((((((ofF l).1) && oP l 0) && oP l 1) && decide ((Zq (oG l 1)).2 = 0)) && oP l 2) && decide ((oG l 2).size = 32))) rfl rfl (.bool true) rfl (Eq.trans Zb1 (congrArg (fun b => some (Value.bool !b)) h1)) ?_
  refine Zd rfl rfl (.bool true) rfl (Zf rfl rfl (Zf rfl rfl (Zk rfl rfl (.bool true) rfl (Zd rfl rfl (.bool true) rfl (Zf rfl rfl (Zf rfl rfl (Zf rfl rfl (Zf rfl rfl (Zf rfl rfl (Zk rfl rfl (.bool true) rfl (Zd rfl rfl (.bool true) rfl (Zf rfl rfl (Zf rfl rfl (Zf rfl rfl (Zf rfl rfl (Zk rfl rfl (.bool true) rfl (Za (Zc (Z0 rfl (Zg (Zi ?_)))))))))))))))))))))
  refine Zaw (vs := []) (v := Zaa (⟨(⟨0, 0, 0, dz, 0⟩ : Head), 0, dz⟩ : Signed)) rfl rfl rfl (by kernel_rfl) ?_
  refine Zr (p := pt 1 0) (v := Zaa (⟨(⟨0, 0, 0, dz, 0⟩ : Head), 0, dz⟩ : Signed)) (b := 1) (blk := bxB 69 (Z3 (⟨(⟨0, 0, 0, dz, 0⟩ : Head), 0, dz⟩ : Signed))) (H' := [rdB l, bxB 69 (Z3 (⟨(⟨0, 0, 0, dz, 0⟩ : Head), 0, dz⟩ : Signed)), bxB 1 ([.bool (((((((ofF l).1) && oP l 0) && oP l 1) && decide ((Zq (oG l 1)).2 = 0)) && oP l 2) && decide ((oG l 2).size = 32))]), rfB (slv 4 (pK (oN l) 3) (Zak (oN l) (pK (oN l) 3)) (Zak (oN l) (pK (oN l) 3))), txB ((ofF l).2), Zy (bl (oG l 0)), bxB 36 (Zan ((Zax (bl (oG l 0))).1)), bxB 69 (Z3 (⟨(Zax (bl (oG l 0))).1, ((Zq (oG l 1)).1), (Zc8 ((((((ofF l).1) && oP l 0) && oP l 1) && decide ((Zq (oG l 1)).2 = 0)) && oP l 2) (oG l 2))⟩ : Signed))]) rfl rfl rfl (by kernel_rfl) (by kernel_rfl) ?_
  refine Zb rfl rfl (Iv 70) rfl (Za (Zc (Zv (Z5 (Zu ?_)))))
  rw [show Zb9 l = ((⟨(⟨0, 0, 0, dz, 0⟩ : Head), 0, dz⟩ : Signed), 70) from by unfold Zb9; rw [if_neg (by rw [h1]; decide)]]
  exact Zm (v := .tuple #[Zaa (⟨(⟨0, 0, 0, dz, 0⟩ : Head), 0, dz⟩ : Signed), Iv 70]) (by kernel_rfl) rfl rfl (by simp [Zac, rdB]) ⟨(Zbd (by kernel_rfl) rfl), rfl, trivial⟩
end Go.Flat
namespace Go.Flat
open Go.Proofs

theorem Zlq (z : Int) (h0 : 0 ≤ z) : (BitVec.ofInt 8 z).toNat = z.toNat % 256 := by
 obtain ⟨n, rfl⟩ : ∃ n : Nat, z = n := ⟨z.toNat, by omega⟩
 rw [BitVec.ofInt_natCast, BitVec.toNat_ofNat]; rfl
theorem Zt0 (f : Field) (rest : Bs) (h1 : 1 ≤ f.tag) (h2 : f.tag ≤ 255) (h3 : f.data.size ≤ 65536) (n : Nat) (hn : n = f.data.size + 4 + rest.length) : Za2 (Zc0 f ++ rest) n = (f, (f.data.size : Int) + 4, 0) := by
 have e : Zc0 f ++ rest = BitVec.ofInt 8 f.tag :: BitVec.ofInt 8 (f.data.size / 65536 : Nat) :: BitVec.ofInt 8 (f.data.size / 256 : Nat) :: BitVec.ofInt 8 (f.data.size : Nat) :: (bl f.data ++ rest) := rfl
 rw [e]
 unfold Za2
 have g0 : (BitVec.ofInt 8 f.tag :: BitVec.ofInt 8 (f.data.size / 65536 : Nat) :: BitVec.ofInt 8 (f.data.size / 256 : Nat) :: BitVec.ofInt 8 (f.data.size : Nat) :: (bl f.data ++ rest)).getD 0 0 = BitVec.ofInt 8 f.tag := rfl
 have g1 : (BitVec.ofInt 8 f.tag :: BitVec.ofInt 8 (f.data.size / 65536 : Nat) :: BitVec.ofInt 8 (f.data.size / 256 : Nat) :: BitVec.ofInt 8 (f.data.size : Nat) :: (bl f.data ++ rest)).getD 1 0 = BitVec.ofInt 8 (f.data.size / 65536 : Nat) := rfl
 have g2 : (BitVec.ofInt 8 f.tag :: BitVec.ofInt 8 (f.data.size / 65536 : Nat) :: BitVec.ofInt 8 (f.data.size / 256 : Nat) :: BitVec.ofInt 8 (f.data.size : Nat) :: (bl f.data ++ rest)).getD 2 0 = BitVec.ofInt 8 (f.data.size / 256 : Nat) := rfl
 have g3 : (BitVec.ofInt 8 f.tag :: BitVec.ofInt 8 (f.data.size / 65536 : Nat) :: BitVec.ofInt 8 (f.data.size / 256 : Nat) :: BitVec.ofInt 8 (f.data.size : Nat) :: (bl f.data ++ rest)).getD 3 0 = BitVec.ofInt 8 (f.data.size : Nat) := rfl
 have t0 := Zlq f.tag (by omega)
 have t1 := Zlq ((f.data.size / 65536 : Nat) : Int) (by omega)
 have t2 := Zlq ((f.data.size / 256 : Nat) : Int) (by omega)
 have t3 := Zlq ((f.data.size : Nat) : Int) (by omega)
 rw [g0, g1, g2, g3, t0, t1, t2, t3]
 have hs : 65536 * (((f.data.size / 65536 : Nat) : Int).toNat % 256) + 256 * (((f.data.size / 256 : Nat) : Int).toNat % 256) + ((f.data.size : Nat) : Int).toNat % 256 = f.data.size := by omega
 rw [if_neg (by omega), if_neg (by
  rw [beq_iff_eq]
  intro h
  have := congrArg BitVec.toNat h
  rw [t0] at this
  simp at this
  omega), if_neg (by omega), if_neg (by omega)]
 rw [hs]
 have e4 : ((BitVec.ofInt 8 f.tag :: BitVec.ofInt 8 (f.data.size / 65536 : Nat) :: BitVec.ofInt 8 (f.data.size / 256 : Nat) :: BitVec.ofInt 8 (f.data.size : Nat) :: (bl f.data ++ rest)).drop 4).take f.data.size = bl f.data := by
  show (bl f.data ++ rest).take f.data.size = bl f.data
  rw [List.take_append_of_le_length (by rw [Zb5]; exact Nat.le_refl _), List.take_of_length_le (by rw [Zb5]; exact Nat.le_refl _)]
 rw [e4, Zh6]
 have et : ((f.tag.toNat % 256 : Nat) : Int) = f.tag := by omega
 rw [et]
 have ez : 65536 * ((((f.data.size / 65536 : Nat) : Int).toNat % 256 : Nat) : Int) + 256 * ((((f.data.size / 256 : Nat) : Int).toNat % 256 : Nat) : Int) + ((((f.data.size : Nat) : Int).toNat % 256 : Nat) : Int) + 4 = (f.data.size : Int) + 4 := by omega
 rw [ez]
theorem Zqg : ∀ (ls : List ByteArray) (k f : Nat) (acc : List Field), (Zgs k ls).length < f → k + ls.length ≤ 255 → (∀ x, x ∈ ls → x.size ≤ 65536) → Zde f (Zgs k ls) (k : Nat) acc = (acc ++ Zd0 k ls, 0)
 | [], k, f, acc, hf, h, hs => by
  cases f with
  | zero => omega
  | succ f => rw [Zde]; simp [Zgs, Zd0]
 | x :: l, k, f, acc, hf, h, hs => by
  simp only [List.length_cons] at h
  have hx := hs x (by simp)
  cases f with
  | zero => omega
  | succ f =>
   have hlen : (Zgs k (x :: l)).length = x.size + 4 + (Zgs (k + 1) l).length := by rw [Zgs, List.length_append, Zgm]
   have hg := Zt0 ⟨(k : Int) + 1, x⟩ (Zgs (k + 1) l) (by dsimp only; omega) (by dsimp only; omega) hx (Zgs k (x :: l)).length hlen
   rw [Zde, if_neg (by rw [hlen]; omega)]
   rw [show Zgs k (x :: l) = Zc0 ⟨(k : Int) + 1, x⟩ ++ Zgs (k + 1) l from rfl] at hg hf ⊢
   rw [hg]
   rw [if_neg (by simp), if_neg (by dsimp only; omega)]
   have ed : (Zc0 ⟨(k : Int) + 1, x⟩ ++ Zgs (k + 1) l).drop ((x.size : Int) + 4).toNat = Zgs (k + 1) l := by
    have : ((x.size : Int) + 4).toNat = (Zc0 ⟨(k : Int) + 1, x⟩).length := by rw [Zgm]; omega
    rw [this, List.drop_left]
   show Zde f ((Zc0 ⟨(k : Int) + 1, x⟩ ++ Zgs (k + 1) l).drop ((x.size : Int) + 4).toNat) ((k : Int) + 1) (acc ++ [⟨(k : Int) + 1, x⟩]) = _
   rw [ed]
   have := Zqg l (k + 1) f (acc ++ [⟨(k : Int) + 1, x⟩]) (by rw [List.length_append, Zgm] at hf; omega) (by omega) (fun y hy => hs y (by simp [hy]))
   rw [show ((k + 1 : Nat) : Int) = (k : Int) + 1 by omega] at this
   rw [this, List.append_assoc]; rfl
end Go.Flat
namespace Go.Flat
open Go.Proofs
theorem Zkc (ls : List ByteArray) (h : ls.length ≤ 255) (hs : ∀ x, x ∈ ls → x.size ≤ 65536) : Zh (Zaj ls) = (Zd0 0 ls, 0) := by
 rw [Zpc ls h hs]
 have := Zqg ls 0 ((Zgs 0 ls).length + 1) [] (by omega) (by omega) hs
 unfold Zh
 rw [List.nil_append] at this
 exact this
theorem Zsu : ∀ (ls : List ByteArray) (k : Nat) (ok : Bool) (acc : List ByteArray), ofL (Zd0 k ls) k ok acc = (ok, acc ++ ls)
 | [], k, ok, acc => by simp [Zd0, ofL]
 | x :: l, k, ok, acc => by
  rw [Zd0, ofL, Zsu l (k + 1), decide_eq_true rfl, Bool.and_true, List.append_assoc]; rfl
theorem Zkv (ls : List ByteArray) (h : ls.length ≤ 255) (hs : ∀ x, x ∈ ls → x.size ≤ 65536) : ofF (Zaj ls) = (true, ls) := by
 unfold ofF
 rw [Zkc ls h hs, Zsu]; rfl
theorem Zty : ∀ (f n : Nat) (acc : Bs), n < 256 ^ f → n ≤ 4611686018427387903 → Ze5 (beL f n acc) 0 = Ze5 acc n
 | 0, n, acc, h, _ => by
  have : n = 0 := by simpa using h
  subst this; rfl
 | f + 1, n, acc, h, hn => by
  rw [beL]
  split
  ·rename_i h0; subst h0; rfl
  ·rw [Zty f (n / 256) _ (by rw [Nat.pow_succ] at h; exact Nat.div_lt_of_lt_mul (by omega)) (by omega), Ze5, if_neg (by omega)]
   have e := Zlq ((n : Nat) : Int) (by omega)
   rw [e]
   congr 1
   omega
theorem Zt5 : ∀ (f n : Nat) (acc : Bs), n < 256 ^ f → 0 < n → (beL f n acc).getD 0 0 ≠ 0#8
 | 0, n, acc, h, h0 => by
  have : n = 0 := by simpa using h
  omega
 | f + 1, n, acc, h, h0 => by
  rw [beL, if_neg (by omega)]
  rcases Nat.eq_zero_or_pos (n / 256) with h1 | h1
  ·rw [h1, Zmn]
   intro hz
   have hz' : BitVec.ofInt 8 ((n : Nat) : Int) = 0#8 := hz
   have e := Zlq ((n : Nat) : Int) (by omega)
   rw [hz'] at e
   simp at e
   omega
  ·exact Zt5 f (n / 256) _ (by rw [Nat.pow_succ] at h; exact Nat.div_lt_of_lt_mul (by omega)) h1
theorem Zca {n : Int} (h0 : 0 ≤ n) (h1 : n ≤ 4611686018427387903) : Zq (Zp n).1 = (n, 0) := by
 have e : (Zp n).1 = Zl (beL 8 n.toNat []) := by
  unfold Zp
  rw [if_pos ⟨h0, h1⟩, Zsc]
 have hlt : n.toNat < 256 ^ 8 := by
  have : (256 : Nat) ^ 8 = 18446744073709551616 := by decide
  omega
 refine Zmw (Za6 n) (fun hsz => ?_) ?_
 ·rw [e, Zdi]
  rcases Nat.eq_zero_or_pos n.toNat with hz | hz
  ·rw [e, Zbc, hz, Zmn] at hsz; simp at hsz
  ·exact beq_eq_false_iff_ne.2 (Zt5 8 n.toNat [] hlt hz)
 ·rw [e, Zdi, Zty 8 n.toNat [] hlt (by omega), Ze5]
  congr 1
  omega
theorem Zoc (d : D) : Zdd 32 (cpD (Zl (dgL d))) d = true := by
 unfold Zdd
 rw [List.all_eq_true]
 intro i hi
 have hi' : i < 32 := by simpa using hi
 rw [beq_iff_eq]
 unfold cpD
 rw [Zbc, Ze2, if_pos hi', Zdi]
 simp [dgL, hi']
end Go.Flat
