/- Walks. -/
import Derived.Test.YtbjlgbejbolohaaDoorH19
import Derived.Test.YtbjlgbejbolohaaDoorH10
import Derived.Test.YtbjlgbejbolohaaDoorFlatG
set_option linter.unusedVariables false
set_option linter.unusedSimpArgs false
set_option maxRecDepth 20000
namespace Go.Flat
open Go.Proofs
variable {G : Glob}
theorem Zy5 (l : Bs) (n : Nat) : (Zd5 l n).1.data.size ≤ l.length := by
 unfold Zd5
 repeat' split
 all_goals first | exact Nat.zero_le _ | (dsimp only; rw [Za3, List.length_take, List.length_drop]; omega)
theorem Zpv (M : Nat) : ∀ (f : Nat) (l : Bs) (last : Int) (acc : List Field), l.length ≤ M → (∀ x, x ∈ acc → x.data.size ≤ M) → ∀ x, x ∈ (Zgz f l last acc).1 → x.data.size ≤ M
 | 0, l, last, acc, h, ha => by simpa [Zgz] using ha
 | f + 1, l, last, acc, h, ha => by
  rw [Zgz]
  split
  ·exact ha
  ·split
   ·intro x hx; simp at hx
   ·split
    ·intro x hx; simp at hx
    ·refine Zpv M f _ _ _ (by rw [List.length_drop]; omega) (fun x hx => ?_)
     rcases List.mem_append.1 hx with hx | hx
     ·exact ha x hx
     ·rw [List.mem_singleton.1 hx]; exact Nat.le_trans (Zy5 _ _) h
theorem Zud (M : Nat) : ∀ (fs : List Field) (i : Nat) (ok : Bool) (acc : List ByteArray), (∀ x, x ∈ fs → x.data.size ≤ M) → (∀ x, x ∈ acc → x.size ≤ M) → ∀ x, x ∈ (ofL fs i ok acc).2 → x.size ≤ M
 | [], i, ok, acc, h, ha => ha
 | f :: fs, i, ok, acc, h, ha => by
  rw [ofL]
  refine Zud M fs _ _ _ (fun x hx => h x (by simp [hx])) (fun x hx => ?_)
  rcases List.mem_append.1 hx with hx | hx
  ·exact ha x hx
  ·rw [List.mem_singleton.1 hx]; exact h f (by simp)
theorem Z32 {l : Bs} {M : Nat} (h : l.length ≤ M) (i : Nat) : ((ofF l).2.getD i ⟨#[]⟩).size ≤ M :=
 Zy4 (Zud M _ _ _ _ (Zpv M _ _ _ _ h (fun x hx => by simp at hx)) (fun x hx => by simp at hx)) i
def Zjz (l : Bs) : Signed × Int :=
  if (((((((ofF l).1) && decide ((pK ((ofF l).2.length) 0) < ((ofF l).2.length))) && decide ((pK ((ofF l).2.length) 1) < ((ofF l).2.length))) && decide ((Zk (((ofF l).2).getD (pK ((ofF l).2.length) 1) ⟨#[]⟩)).2 = 0)) && decide ((pK ((ofF l).2.length) 2) < ((ofF l).2.length))) && decide ((((ofF l).2).getD (pK ((ofF l).2.length) 2) ⟨#[]⟩).size = 32)) = true then (if ((Zbo (bl (((ofF l).2).getD (pK ((ofF l).2.length) 0) ⟨#[]⟩))).2) ≠ 0 then ((⟨(⟨0, 0, 0, dz, 0⟩ : Head), 0, dz⟩ : Signed), 70) else
  if 0 < (((Z3 ((ofF l).2.length) (pK ((ofF l).2.length) 3)) : Nat) : Int) then ((⟨(⟨0, 0, 0, dz, 0⟩ : Head), 0, dz⟩ : Signed), 70) else
  if 1 ≤ ((Zk (((ofF l).2).getD (pK ((ofF l).2.length) 1) ⟨#[]⟩)).1) then (if ((Zk (((ofF l).2).getD (pK ((ofF l).2.length) 1) ⟨#[]⟩)).1) ≤ 3 then ((⟨(Zbo (bl (((ofF l).2).getD (pK ((ofF l).2.length) 0) ⟨#[]⟩))).1, ((Zk (((ofF l).2).getD (pK ((ofF l).2.length) 1) ⟨#[]⟩)).1), (Zc5 ((((((ofF l).1) && decide ((pK ((ofF l).2.length) 0) < ((ofF l).2.length))) && decide ((pK ((ofF l).2.length) 1) < ((ofF l).2.length))) && decide ((Zk (((ofF l).2).getD (pK ((ofF l).2.length) 1) ⟨#[]⟩)).2 = 0)) && decide ((pK ((ofF l).2.length) 2) < ((ofF l).2.length))) (((ofF l).2).getD (pK ((ofF l).2.length) 2) ⟨#[]⟩))⟩ : Signed), 0) else
  ((⟨(⟨0, 0, 0, dz, 0⟩ : Head), 0, dz⟩ : Signed), 70)) else
  ((⟨(⟨0, 0, 0, dz, 0⟩ : Head), 0, dz⟩ : Signed), 70)) else
  ((⟨(⟨0, 0, 0, dz, 0⟩ : Head), 0, dz⟩ : Signed), 70)
theorem Zqg (l : Bs) (n c : Nat) (hn : l.length = n) (hc : n ≤ c) (hb : n ≤ 1099511627776) (hb' : l.length ≤ 1099511627776) : Zac Tryd.prog G 10 [slv 0 0 n c] [rdB l] (.tuple #[Z6 (Zjz l).1, Iv (Zjz l).2]) [rdB l] := by
  refine Zb8 (fn := Tryd.f10) (nt := 47) rfl rfl rfl rfl ?_
  refine Zah 7 (H' := [rdB l, hole, hole, hole, hole, hole, hole, hole]) rfl ?_
  refine Ze (Zf ?_)
  refine Zq (b := bxB 69 (Zt (⟨(⟨0, 0, 0, dz, 0⟩ : Head), 0, dz⟩ : Signed))) (nid := 1) (H' := [rdB l, bxB 69 (Zt (⟨(⟨0, 0, 0, dz, 0⟩ : Head), 0, dz⟩ : Signed)), hole, hole, hole, hole, hole, hole]) rfl rfl (by kernel_rfl) (by kernel_rfl) ?_
  refine Zc rfl rfl (Iv 0) rfl (Za (Zb (Ze (Zf ?_))))
  refine Zq (b := bxB 1 ([.bool false])) (nid := 2) (H' := [rdB l, bxB 69 (Zt (⟨(⟨0, 0, 0, dz, 0⟩ : Head), 0, dz⟩ : Signed)), bxB 1 ([.bool false]), hole, hole, hole, hole, hole]) rfl rfl (by kernel_rfl) (by kernel_rfl) ?_
  refine Za (Zb (Ze (Zf (Zd rfl rfl (slv 0 0 n c) rfl ?_))))
  have hrm14 : Z3 (oN l) (pK (oN l) 0) + pK (oN l) 0 = (oN l) := Zew (Nat.zero_le _)
  refine Zab (e := [some (0, 0), some (2, 0)]) (nid := 3) (Z1w (G := G) l n c false hn (by omega) (by omega)) (vals := [slv 0 0 n c, pt 2 0]) (v := pt 3 0) (H' := [rdB l, bxB 69 (Zt (⟨(⟨0, 0, 0, dz, 0⟩ : Head), 0, dz⟩ : Signed)), bxB 1 ([.bool ((ofF l).1)]), rfB (slv 4 (pK (oN l) 0) (Z3 (oN l) (pK (oN l) 0)) (Z3 (oN l) (pK (oN l) 0))), txB ((ofF l).2), hole, hole, hole]) rfl rfl rfl rfl rfl rfl rfl ⟨⟨⟨rfl, rfl, rfl, by first | omega | exact Nat.le_refl _, by first | omega | exact Nat.le_refl _⟩, ⟨rfl, rfl⟩, trivial⟩, ⟨(Zsi rfl), (Zal rfl rfl rfl rfl), trivial⟩, rfl, rfl, rfl⟩ (by kernel_rfl) (by kernel_rfl) ?_
  refine Zc rfl rfl (pt 3 0) rfl (Za (Zb (Ze (Zf (Zd rfl rfl (pt 3 0) rfl ?_)))))
  have hpk15 := Zgq (oN l) 1
  have hrm15 : Z3 (oN l) (pK (oN l) 1) + (pK (oN l) 1) = (oN l) := Zew hpk15
  refine Zab (e := [some (3, 0), some (4, 0), some (2, 0)]) (nid := 0) (Zsu (G := G) ((ofF l).2) (oN l) (pK (oN l) 0) ((ofF l).1) rfl (Zgq (oN l) 0)) (vals := [pt 3 0, pt 2 0]) (v := .string (oG l 0)) (H' := [rdB l, bxB 69 (Zt (⟨(⟨0, 0, 0, dz, 0⟩ : Head), 0, dz⟩ : Signed)), bxB 1 ([.bool (((ofF l).1) && oP l 0)]), rfB (slv 4 (pK (oN l) 1) (Z3 (oN l) (pK (oN l) 1)) (Z3 (oN l) (pK (oN l) 1))), txB ((ofF l).2), hole, hole, hole]) rfl rfl rfl rfl rfl rfl rfl ⟨⟨⟨rfl, rfl⟩, ⟨rfl, rfl⟩, trivial⟩, ⟨(Zal rfl rfl rfl (by show [_] = [Zdr _ _]; simp [Zdr, Zck])), (Zhg rfl), (Zal rfl rfl rfl rfl), trivial⟩, rfl, rfl, rfl⟩ (by kernel_rfl) (Eq.trans (b := [rdB l, bxB 69 (Zt (⟨(⟨0, 0, 0, dz, 0⟩ : Head), 0, dz⟩ : Signed)), bxB 1 ([.bool (((ofF l).1) && oP l 0)]), rfB (slv 4 (0 + (pK (oN l) 1)) (Z3 (oN l) (pK (oN l) 1)) (Z3 (oN l) (pK (oN l) 1))), txB ((ofF l).2), hole, hole, hole]) (by kernel_rfl) (by rw [Nat.zero_add])) ?_
  refine Zm9 (p := .string (oG l 0)) (v := slv 5 0 ((oG l 0).size) ((oG l 0).size)) (blk := Zan (bl (oG l 0))) (nid := 5) (H' := [rdB l, bxB 69 (Zt (⟨(⟨0, 0, 0, dz, 0⟩ : Head), 0, dz⟩ : Signed)), bxB 1 ([.bool (((ofF l).1) && oP l 0)]), rfB (slv 4 (pK (oN l) 1) (Z3 (oN l) (pK (oN l) 1)) (Z3 (oN l) (pK (oN l) 1))), txB ((ofF l).2), Zan (bl (oG l 0)), hole, hole]) rfl rfl rfl (Zo2 rfl rfl rfl) (by kernel_rfl) ?_
  have hsz16 := Z32 hb' 0
  refine Zab (e := [some (5, 0)]) (nid := 0) (Z2x (G := G) (bl (oG l 0)) ((oG l 0).size) ((oG l 0).size) (Zes (oG l 0)) (by omega) hsz16) (vals := [slv 5 0 ((oG l 0).size) ((oG l 0).size)]) (v := .tuple #[Zbp ((Zbo (bl (oG l 0))).1), Iv ((Zbo (bl (oG l 0))).2)]) (H' := [rdB l, bxB 69 (Zt (⟨(⟨0, 0, 0, dz, 0⟩ : Head), 0, dz⟩ : Signed)), bxB 1 ([.bool (((ofF l).1) && oP l 0)]), rfB (slv 4 (pK (oN l) 1) (Z3 (oN l) (pK (oN l) 1)) (Z3 (oN l) (pK (oN l) 1))), txB ((ofF l).2), Zan (bl (oG l 0)), hole, hole]) rfl rfl rfl rfl rfl rfl rfl ⟨⟨⟨rfl, rfl, rfl, by first | omega | exact Nat.le_refl _, by first | omega | exact Nat.le_refl _⟩, trivial⟩, ⟨(Zxv rfl), trivial⟩, rfl, rfl, rfl⟩ (by kernel_rfl) (by kernel_rfl) ?_
  refine Zd rfl rfl (.tuple #[Zbp ((Zbo (bl (oG l 0))).1), Iv ((Zbo (bl (oG l 0))).2)]) rfl (Z5 (vs := #[Zbp ((Zbo (bl (oG l 0))).1), Iv ((Zbo (bl (oG l 0))).2)]) (v := Zbp ((Zbo (bl (oG l 0))).1)) rfl rfl rfl rfl (Z5 (vs := #[Zbp ((Zbo (bl (oG l 0))).1), Iv ((Zbo (bl (oG l 0))).2)]) (v := Iv ((Zbo (bl (oG l 0))).2)) rfl rfl rfl rfl ?_))
  refine Zq (b := bxB 36 (Zae (⟨0, 0, 0, dz, 0⟩ : Head))) (nid := 6) (H' := [rdB l, bxB 69 (Zt (⟨(⟨0, 0, 0, dz, 0⟩ : Head), 0, dz⟩ : Signed)), bxB 1 ([.bool (((ofF l).1) && oP l 0)]), rfB (slv 4 (pK (oN l) 1) (Z3 (oN l) (pK (oN l) 1)) (Z3 (oN l) (pK (oN l) 1))), txB ((ofF l).2), Zan (bl (oG l 0)), bxB 36 (Zae (⟨0, 0, 0, dz, 0⟩ : Head)), hole]) rfl rfl (by kernel_rfl) (by kernel_rfl) ?_
  refine Zj (p := pt 6 0) (v := Zbp ((Zbo (bl (oG l 0))).1)) (b := 6) (blk := bxB 36 (Zae ((Zbo (bl (oG l 0))).1))) (H' := [rdB l, bxB 69 (Zt (⟨(⟨0, 0, 0, dz, 0⟩ : Head), 0, dz⟩ : Signed)), bxB 1 ([.bool (((ofF l).1) && oP l 0)]), rfB (slv 4 (pK (oN l) 1) (Z3 (oN l) (pK (oN l) 1)) (Z3 (oN l) (pK (oN l) 1))), txB ((ofF l).2), Zan (bl (oG l 0)), bxB 36 (Zae ((Zbo (bl (oG l 0))).1)), hole]) rfl rfl rfl (by kernel_rfl) (by kernel_rfl) ?_
  refine Zc rfl rfl (Iv ((Zbo (bl (oG l 0))).2)) rfl (Za (Zb (Ze (Zf ?_))))
  refine Zg (p := pt 6 0) (v := Zbp ((Zbo (bl (oG l 0))).1)) rfl rfl rfl (by kernel_rfl) ?_
  refine Zbf (vs := [(0, Zbp ((Zbo (bl (oG l 0))).1))]) (v := Z6 (⟨(Zbo (bl (oG l 0))).1, 0, dz⟩ : Signed)) rfl rfl rfl (by kernel_rfl) ?_
  refine Zq (b := bxB 69 (Zt (⟨(⟨0, 0, 0, dz, 0⟩ : Head), 0, dz⟩ : Signed))) (nid := 7) (H' := [rdB l, bxB 69 (Zt (⟨(⟨0, 0, 0, dz, 0⟩ : Head), 0, dz⟩ : Signed)), bxB 1 ([.bool (((ofF l).1) && oP l 0)]), rfB (slv 4 (pK (oN l) 1) (Z3 (oN l) (pK (oN l) 1)) (Z3 (oN l) (pK (oN l) 1))), txB ((ofF l).2), Zan (bl (oG l 0)), bxB 36 (Zae ((Zbo (bl (oG l 0))).1)), bxB 69 (Zt (⟨(⟨0, 0, 0, dz, 0⟩ : Head), 0, dz⟩ : Signed))]) rfl rfl (by kernel_rfl) (by kernel_rfl) ?_
  refine Zj (p := pt 7 0) (v := Z6 (⟨(Zbo (bl (oG l 0))).1, 0, dz⟩ : Signed)) (b := 7) (blk := bxB 69 (Zt (⟨(Zbo (bl (oG l 0))).1, 0, dz⟩ : Signed))) (H' := [rdB l, bxB 69 (Zt (⟨(⟨0, 0, 0, dz, 0⟩ : Head), 0, dz⟩ : Signed)), bxB 1 ([.bool (((ofF l).1) && oP l 0)]), rfB (slv 4 (pK (oN l) 1) (Z3 (oN l) (pK (oN l) 1)) (Z3 (oN l) (pK (oN l) 1))), txB ((ofF l).2), Zan (bl (oG l 0)), bxB 36 (Zae ((Zbo (bl (oG l 0))).1)), bxB 69 (Zt (⟨(Zbo (bl (oG l 0))).1, 0, dz⟩ : Signed))]) rfl rfl rfl (by kernel_rfl) (by kernel_rfl) ?_
  refine Za (Zb (Ze (Zf (Zd rfl rfl (pt 3 0) rfl ?_))))
  have hpk17 := Zgq (oN l) 2
  have hrm17 : Z3 (oN l) (pK (oN l) 2) + (pK (oN l) 2) = (oN l) := Zew hpk17
  refine Zab (e := [some (3, 0), some (4, 0), some (2, 0)]) (nid := 0) (Ziz (G := G) ((ofF l).2) (oN l) (pK (oN l) 1) (((ofF l).1) && oP l 0) rfl (Zgq (oN l) 1)) (vals := [pt 3 0, pt 2 0]) (v := Iv ((Zk (oG l 1)).1)) (H' := [rdB l, bxB 69 (Zt (⟨(⟨0, 0, 0, dz, 0⟩ : Head), 0, dz⟩ : Signed)), bxB 1 ([.bool (((((ofF l).1) && oP l 0) && oP l 1) && decide ((Zk (oG l 1)).2 = 0))]), rfB (slv 4 (pK (oN l) 2) (Z3 (oN l) (pK (oN l) 2)) (Z3 (oN l) (pK (oN l) 2))), txB ((ofF l).2), Zan (bl (oG l 0)), bxB 36 (Zae ((Zbo (bl (oG l 0))).1)), bxB 69 (Zt (⟨(Zbo (bl (oG l 0))).1, 0, dz⟩ : Signed))]) rfl rfl rfl rfl rfl rfl rfl ⟨⟨⟨rfl, rfl⟩, ⟨rfl, rfl⟩, trivial⟩, ⟨(Zal rfl rfl rfl (by show [_] = [Zdr _ _]; simp [Zdr, Zck])), (Zhg rfl), (Zal rfl rfl rfl rfl), trivial⟩, rfl, rfl, rfl⟩ (by kernel_rfl) (Eq.trans (b := [rdB l, bxB 69 (Zt (⟨(⟨0, 0, 0, dz, 0⟩ : Head), 0, dz⟩ : Signed)), bxB 1 ([.bool (((((ofF l).1) && oP l 0) && oP l 1) && decide ((Zk (oG l 1)).2 = 0))]), rfB (slv 4 (0 + (pK (oN l) 2)) (Z3 (oN l) (pK (oN l) 2)) (Z3 (oN l) (pK (oN l) 2))), txB ((ofF l).2), Zan (bl (oG l 0)), bxB 36 (Zae ((Zbo (bl (oG l 0))).1)), bxB 69 (Zt (⟨(Zbo (bl (oG l 0))).1, 0, dz⟩ : Signed))]) (by kernel_rfl) (by rw [Nat.zero_add])) ?_
  refine Zh (b := 7) (o := 0) (n := 36) (o' := 36) rfl rfl rfl rfl rfl ?_
  refine Zj (p := pt 7 36) (v := Iv ((Zk (oG l 1)).1)) (b := 7) (blk := bxB 69 (Zt (⟨(Zbo (bl (oG l 0))).1, ((Zk (oG l 1)).1), dz⟩ : Signed))) (H' := [rdB l, bxB 69 (Zt (⟨(⟨0, 0, 0, dz, 0⟩ : Head), 0, dz⟩ : Signed)), bxB 1 ([.bool (((((ofF l).1) && oP l 0) && oP l 1) && decide ((Zk (oG l 1)).2 = 0))]), rfB (slv 4 (pK (oN l) 2) (Z3 (oN l) (pK (oN l) 2)) (Z3 (oN l) (pK (oN l) 2))), txB ((ofF l).2), Zan (bl (oG l 0)), bxB 36 (Zae ((Zbo (bl (oG l 0))).1)), bxB 69 (Zt (⟨(Zbo (bl (oG l 0))).1, ((Zk (oG l 1)).1), dz⟩ : Signed))]) rfl rfl rfl (by kernel_rfl) (by kernel_rfl) ?_
  refine Za (Zb (Ze (Zf (Zd rfl rfl (pt 3 0) rfl ?_))))
  have hpk18 := Zgq (oN l) 3
  have hrm18 : Z3 (oN l) (pK (oN l) 3) + (pK (oN l) 3) = (oN l) := Zew hpk18
  refine Zab (e := [some (3, 0), some (4, 0), some (2, 0)]) (nid := 0) (Zq2 (G := G) ((ofF l).2) (oN l) (pK (oN l) 2) (((((ofF l).1) && oP l 0) && oP l 1) && decide ((Zk (oG l 1)).2 = 0)) rfl (Zgq (oN l) 2)) (vals := [pt 3 0, pt 2 0]) (v := dgV (Zc5 ((((((ofF l).1) && oP l 0) && oP l 1) && decide ((Zk (oG l 1)).2 = 0)) && oP l 2) (oG l 2))) (H' := [rdB l, bxB 69 (Zt (⟨(⟨0, 0, 0, dz, 0⟩ : Head), 0, dz⟩ : Signed)), bxB 1 ([.bool (((((((ofF l).1) && oP l 0) && oP l 1) && decide ((Zk (oG l 1)).2 = 0)) && oP l 2) && decide ((oG l 2).size = 32))]), rfB (slv 4 (pK (oN l) 3) (Z3 (oN l) (pK (oN l) 3)) (Z3 (oN l) (pK (oN l) 3))), txB ((ofF l).2), Zan (bl (oG l 0)), bxB 36 (Zae ((Zbo (bl (oG l 0))).1)), bxB 69 (Zt (⟨(Zbo (bl (oG l 0))).1, ((Zk (oG l 1)).1), dz⟩ : Signed))]) rfl rfl rfl rfl rfl rfl rfl ⟨⟨⟨rfl, rfl⟩, ⟨rfl, rfl⟩, trivial⟩, ⟨(Zal rfl rfl rfl (by show [_] = [Zdr _ _]; simp [Zdr, Zck])), (Zhg rfl), (Zal rfl rfl rfl rfl), trivial⟩, rfl, rfl, rfl⟩ (by kernel_rfl) (Eq.trans (b := [rdB l, bxB 69 (Zt (⟨(⟨0, 0, 0, dz, 0⟩ : Head), 0, dz⟩ : Signed)), bxB 1 ([.bool (((((((ofF l).1) && oP l 0) && oP l 1) && decide ((Zk (oG l 1)).2 = 0)) && oP l 2) && decide ((oG l 2).size = 32))]), rfB (slv 4 (0 + (pK (oN l) 3)) (Z3 (oN l) (pK (oN l) 3)) (Z3 (oN l) (pK (oN l) 3))), txB ((ofF l).2), Zan (bl (oG l 0)), bxB 36 (Zae ((Zbo (bl (oG l 0))).1)), bxB 69 (Zt (⟨(Zbo (bl (oG l 0))).1, ((Zk (oG l 1)).1), dz⟩ : Signed))]) (by kernel_rfl) (by rw [Nat.zero_add])) ?_
  refine Zh (b := 7) (o := 0) (n := 37) (o' := 37) rfl rfl rfl rfl rfl ?_
  refine Zj (p := pt 7 37) (v := dgV (Zc5 ((((((ofF l).1) && oP l 0) && oP l 1) && decide ((Zk (oG l 1)).2 = 0)) && oP l 2) (oG l 2))) (b := 7) (blk := bxB 69 (Zt (⟨(Zbo (bl (oG l 0))).1, ((Zk (oG l 1)).1), (Zc5 ((((((ofF l).1) && oP l 0) && oP l 1) && decide ((Zk (oG l 1)).2 = 0)) && oP l 2) (oG l 2))⟩ : Signed))) (H' := [rdB l, bxB 69 (Zt (⟨(⟨0, 0, 0, dz, 0⟩ : Head), 0, dz⟩ : Signed)), bxB 1 ([.bool (((((((ofF l).1) && oP l 0) && oP l 1) && decide ((Zk (oG l 1)).2 = 0)) && oP l 2) && decide ((oG l 2).size = 32))]), rfB (slv 4 (pK (oN l) 3) (Z3 (oN l) (pK (oN l) 3)) (Z3 (oN l) (pK (oN l) 3))), txB ((ofF l).2), Zan (bl (oG l 0)), bxB 36 (Zae ((Zbo (bl (oG l 0))).1)), bxB 69 (Zt (⟨(Zbo (bl (oG l 0))).1, ((Zk (oG l 1)).1), (Zc5 ((((((ofF l).1) && oP l 0) && oP l 1) && decide ((Zk (oG l 1)).2 = 0)) && oP l 2) (oG l 2))⟩ : Signed))]) rfl rfl rfl (by kernel_rfl) (by kernel_rfl) ?_
  refine Za (Zb (Ze (Ze (Zf ?_))))
  refine Zg (p := pt 2 0) (v := .bool (((((((ofF l).1) && oP l 0) && oP l 1) && decide ((Zk (oG l 1)).2 = 0)) && oP l 2) && decide ((oG l 2).size = 32))) rfl rfl rfl (by kernel_rfl) ?_
  rcases Bool.eq_false_or_eq_true (((((((ofF l).1) && oP l 0) && oP l 1) && decide ((Zk (oG l 1)).2 = 0)) && oP l 2) && decide ((oG l 2).size = 32)) with h1 | h1
  refine Zhl (vx := .bool (((((((ofF l).1) && oP l 0) && oP l 1) && decide ((Zk (oG l 1)).2 = 0)) && oP l 2) && decide ((oG l 2).size = 32))) rfl rfl (.bool false) rfl (Eq.trans Zdu (congrArg (fun b => some (Value.bool !b)) h1)) ?_
  refine Zd rfl rfl (.bool false) rfl (Zd rfl rfl (Iv ((Zbo (bl (oG l 0))).2)) rfl ?_)
  by_cases h2 : ((Zbo (bl (oG l 0))).2) ≠ 0
  refine Zi (vx := Iv ((Zbo (bl (oG l 0))).2)) (vy := Iv 0) rfl rfl (.bool true) rfl rfl (Zke (by omega)) ?_
  refine Zp rfl rfl (.bool true) rfl (Zd rfl rfl (.bool true) rfl (Zn rfl rfl (Zn rfl rfl (Zn rfl rfl (Zn rfl rfl (Zn rfl rfl (Zp rfl rfl (.bool true) rfl (Zd rfl rfl (.bool true) rfl (Zn rfl rfl (Zn rfl rfl (Zn rfl rfl (Zn rfl rfl (Zp rfl rfl (.bool true) rfl (Za (Zb (Zu rfl (Ze (Zf ?_))))))))))))))))))
  refine Zbf (vs := []) (v := Z6 (⟨(⟨0, 0, 0, dz, 0⟩ : Head), 0, dz⟩ : Signed)) rfl rfl rfl (by kernel_rfl) ?_
  refine Zj (p := pt 1 0) (v := Z6 (⟨(⟨0, 0, 0, dz, 0⟩ : Head), 0, dz⟩ : Signed)) (b := 1) (blk := bxB 69 (Zt (⟨(⟨0, 0, 0, dz, 0⟩ : Head), 0, dz⟩ : Signed))) (H' := [rdB l, bxB 69 (Zt (⟨(⟨0, 0, 0, dz, 0⟩ : Head), 0, dz⟩ : Signed)), bxB 1 ([.bool (((((((ofF l).1) && oP l 0) && oP l 1) && decide ((Zk (oG l 1)).2 = 0)) && oP l 2) && decide ((oG l 2).size = 32))]), rfB (slv 4 (pK (oN l) 3) (Z3 (oN l) (pK (oN l) 3)) (Z3 (oN l) (pK (oN l) 3))), txB ((ofF l).2), Zan (bl (oG l 0)), bxB 36 (Zae ((Zbo (bl (oG l 0))).1)), bxB 69 (Zt (⟨(Zbo (bl (oG l 0))).1, ((Zk (oG l 1)).1), (Zc5 ((((((ofF l).1) && oP l 0) && oP l 1) && decide ((Zk (oG l 1)).2 = 0)) && oP l 2) (oG l 2))⟩ : Signed))]) rfl rfl rfl (by kernel_rfl) (by kernel_rfl) ?_
  refine Zc rfl rfl (Iv 70) rfl (Za (Zb (Zw (Zaj (Zy ?_)))))
  rw [show Zjz l = ((⟨(⟨0, 0, 0, dz, 0⟩ : Head), 0, dz⟩ : Signed), 70) from by unfold Zjz; rw [if_pos h1, if_pos h2]]
  exact Zo (v := .tuple #[Z6 (⟨(⟨0, 0, 0, dz, 0⟩ : Head), 0, dz⟩ : Signed), Iv 70]) (by kernel_rfl) rfl rfl (by simp [Za1, rdB]) ⟨(Zeg (by kernel_rfl) rfl), rfl, trivial⟩
  refine Zi (vx := Iv ((Zbo (bl (oG l 0))).2)) (vy := Iv 0) rfl rfl (.bool false) rfl rfl (Zen (by omega)) ?_
  refine Zp rfl rfl (.bool false) rfl (Zd rfl rfl (.bool false) rfl (Zd rfl rfl (pt 3 0) rfl ?_))
  refine Z7 (p := pt 3 0) (v := pt 3 0) rfl rfl rfl rfl ?_
  refine Zg (p := pt 3 0) (v := slv 4 (pK (oN l) 3) (Z3 (oN l) (pK (oN l) 3)) (Z3 (oN l) (pK (oN l) 3))) rfl rfl rfl rfl ?_
  refine Za6 (p := slv 4 (pK (oN l) 3) (Z3 (oN l) (pK (oN l) 3)) (Z3 (oN l) (pK (oN l) 3))) (v := Iv (((Z3 (oN l) (pK (oN l) 3)) : Nat) : Int)) rfl rfl rfl rfl ?_
  by_cases h3 : 0 < (((Z3 (oN l) (pK (oN l) 3)) : Nat) : Int)
  refine Zi (vx := Iv (((Z3 (oN l) (pK (oN l) 3)) : Nat) : Int)) (vy := Iv 0) rfl rfl (.bool true) rfl rfl (Zde (by omega)) ?_
  refine Zp rfl rfl (.bool true) rfl (Zd rfl rfl (.bool true) rfl (Zn rfl rfl (Zn rfl rfl (Zn rfl rfl (Zn rfl rfl (Zp rfl rfl (.bool true) rfl (Za (Zb (Zu rfl (Ze (Zf ?_)))))))))))
  refine Zbf (vs := []) (v := Z6 (⟨(⟨0, 0, 0, dz, 0⟩ : Head), 0, dz⟩ : Signed)) rfl rfl rfl (by kernel_rfl) ?_
  refine Zj (p := pt 1 0) (v := Z6 (⟨(⟨0, 0, 0, dz, 0⟩ : Head), 0, dz⟩ : Signed)) (b := 1) (blk := bxB 69 (Zt (⟨(⟨0, 0, 0, dz, 0⟩ : Head), 0, dz⟩ : Signed))) (H' := [rdB l, bxB 69 (Zt (⟨(⟨0, 0, 0, dz, 0⟩ : Head), 0, dz⟩ : Signed)), bxB 1 ([.bool (((((((ofF l).1) && oP l 0) && oP l 1) && decide ((Zk (oG l 1)).2 = 0)) && oP l 2) && decide ((oG l 2).size = 32))]), rfB (slv 4 (pK (oN l) 3) (Z3 (oN l) (pK (oN l) 3)) (Z3 (oN l) (pK (oN l) 3))), txB ((ofF l).2), Zan (bl (oG l 0)), bxB 36 (Zae ((Zbo (bl (oG l 0))).1)), bxB 69 (Zt (⟨(Zbo (bl (oG l 0))).1, ((Zk (oG l 1)).1), (Zc5 ((((((ofF l).1) && oP l 0) && oP l 1) && decide ((Zk (oG l 1)).2 = 0)) && oP l 2) (oG l 2))⟩ : Signed))]) rfl rfl rfl (by kernel_rfl) (by kernel_rfl) ?_
  refine Zc rfl rfl (Iv 70) rfl (Za (Zb (Zw (Zaj (Zy ?_)))))
  rw [show Zjz l = ((⟨(⟨0, 0, 0, dz, 0⟩ : Head), 0, dz⟩ : Signed), 70) from by unfold Zjz; rw [if_pos h1, if_neg h2, if_pos h3]]
  exact Zo (v := .tuple #[Z6 (⟨(⟨0, 0, 0, dz, 0⟩ : Head), 0, dz⟩ : Signed), Iv 70]) (by kernel_rfl) rfl rfl (by simp [Za1, rdB]) ⟨(Zeg (by kernel_rfl) rfl), rfl, trivial⟩
  refine Zi (vx := Iv (((Z3 (oN l) (pK (oN l) 3)) : Nat) : Int)) (vy := Iv 0) rfl rfl (.bool false) rfl rfl (Zcw (by omega)) ?_
  refine Zp rfl rfl (.bool false) rfl (Zd rfl rfl (.bool false) rfl ?_)
  refine Zh (b := 7) (o := 0) (n := 36) (o' := 36) rfl rfl rfl rfl rfl ?_
  refine Zg (p := pt 7 36) (v := Iv ((Zk (oG l 1)).1)) rfl rfl rfl (by kernel_rfl) ?_
  by_cases h4 : 1 ≤ ((Zk (oG l 1)).1)
  by_cases h5 : ((Zk (oG l 1)).1) ≤ 3
  refine Zv ((Zbs (G := G) ((Zk (oG l 1)).1) 1 3).res (congrArg Value.bool (Zgh (by omega) (by omega)))) (vals := [Iv ((Zk (oG l 1)).1), Iv 1, Iv 3]) (res' := .bool true) rfl rfl rfl rfl rfl rfl ?_
  refine Zhl (vx := .bool true) rfl rfl (.bool false) rfl Zdu ?_
  refine Zp rfl rfl (.bool false) rfl (Za (Zb (Zr rfl (Z0 (Zb (Ze (Zf ?_)))))))
  refine Zg (p := pt 7 0) (v := Z6 (⟨(Zbo (bl (oG l 0))).1, ((Zk (oG l 1)).1), (Zc5 ((((((ofF l).1) && oP l 0) && oP l 1) && decide ((Zk (oG l 1)).2 = 0)) && oP l 2) (oG l 2))⟩ : Signed)) rfl rfl rfl (by kernel_rfl) ?_
  refine Zj (p := pt 1 0) (v := Z6 (⟨(Zbo (bl (oG l 0))).1, ((Zk (oG l 1)).1), (Zc5 ((((((ofF l).1) && oP l 0) && oP l 1) && decide ((Zk (oG l 1)).2 = 0)) && oP l 2) (oG l 2))⟩ : Signed)) (b := 1) (blk := bxB 69 (Zt (⟨(Zbo (bl (oG l 0))).1, ((Zk (oG l 1)).1), (Zc5 ((((((ofF l).1) && oP l 0) && oP l 1) && decide ((Zk (oG l 1)).2 = 0)) && oP l 2) (oG l 2))⟩ : Signed))) (H' := [rdB l, bxB 69 (Zt (⟨(Zbo (bl (oG l 0))).1, ((Zk (oG l 1)).1), (Zc5 ((((((ofF l).1) && oP l 0) && oP l 1) && decide ((Zk (oG l 1)).2 = 0)) && oP l 2) (oG l 2))⟩ : Signed)), bxB 1 ([.bool (((((((ofF l).1) && oP l 0) && oP l 1) && decide ((Zk (oG l 1)).2 = 0)) && oP l 2) && decide ((oG l 2).size = 32))]), rfB (slv 4 (pK (oN l) 3) (Z3 (oN l) (pK (oN l) 3)) (Z3 (oN l) (pK (oN l) 3))), txB ((ofF l).2), Zan (bl (oG l 0)), bxB 36 (Zae ((Zbo (bl (oG l 0))).1)), bxB 69 (Zt (⟨(Zbo (bl (oG l 0))).1, ((Zk (oG l 1)).1), (Zc5 ((((((ofF l).1) && oP l 0) && oP l 1) && decide ((Zk (oG l 1)).2 = 0)) && oP l 2) (oG l 2))⟩ : Signed))]) rfl rfl rfl (by kernel_rfl) (by kernel_rfl) ?_
  refine Zc rfl rfl (Iv 0) rfl (Za (Zb (Zw (Zy ?_))))
  rw [show Zjz l = ((⟨(Zbo (bl (oG l 0))).1, ((Zk (oG l 1)).1), (Zc5 ((((((ofF l).1) && oP l 0) && oP l 1) && decide ((Zk (oG l 1)).2 = 0)) && oP l 2) (oG l 2))⟩ : Signed), 0) from by unfold Zjz; rw [if_pos h1, if_neg h2, if_neg h3, if_pos h4, if_pos h5]]
  exact Zo (v := .tuple #[Z6 (⟨(Zbo (bl (oG l 0))).1, ((Zk (oG l 1)).1), (Zc5 ((((((ofF l).1) && oP l 0) && oP l 1) && decide ((Zk (oG l 1)).2 = 0)) && oP l 2) (oG l 2))⟩ : Signed), Iv 0]) (by kernel_rfl) rfl rfl (by simp [Za1, rdB]) ⟨(Zeg (by kernel_rfl) rfl), rfl, trivial⟩
  refine Zv ((Zbs (G := G) ((Zk (oG l 1)).1) 1 3).res (congrArg Value.bool (Zc3 (by omega)))) (vals := [Iv ((Zk (oG l 1)).1), Iv 1, Iv 3]) (res' := .bool false) rfl rfl rfl rfl rfl rfl ?_
  refine Zhl (vx := .bool false) rfl rfl (.bool true) rfl Zdu ?_
  refine Zp rfl rfl (.bool true) rfl (Za (Zb (Zu rfl (Ze (Zf ?_)))))
  refine Zbf (vs := []) (v := Z6 (⟨(⟨0, 0, 0, dz, 0⟩ : Head), 0, dz⟩ : Signed)) rfl rfl rfl (by kernel_rfl) ?_
  refine Zj (p := pt 1 0) (v := Z6 (⟨(⟨0, 0, 0, dz, 0⟩ : Head), 0, dz⟩ : Signed)) (b := 1) (blk := bxB 69 (Zt (⟨(⟨0, 0, 0, dz, 0⟩ : Head), 0, dz⟩ : Signed))) (H' := [rdB l, bxB 69 (Zt (⟨(⟨0, 0, 0, dz, 0⟩ : Head), 0, dz⟩ : Signed)), bxB 1 ([.bool (((((((ofF l).1) && oP l 0) && oP l 1) && decide ((Zk (oG l 1)).2 = 0)) && oP l 2) && decide ((oG l 2).size = 32))]), rfB (slv 4 (pK (oN l) 3) (Z3 (oN l) (pK (oN l) 3)) (Z3 (oN l) (pK (oN l) 3))), txB ((ofF l).2), Zan (bl (oG l 0)), bxB 36 (Zae ((Zbo (bl (oG l 0))).1)), bxB 69 (Zt (⟨(Zbo (bl (oG l 0))).1, ((Zk (oG l 1)).1), (Zc5 ((((((ofF l).1) && oP l 0) && oP l 1) && decide ((Zk (oG l 1)).2 = 0)) && oP l 2) (oG l 2))⟩ : Signed))]) rfl rfl rfl (by kernel_rfl) (by kernel_rfl) ?_
  refine Zc rfl rfl (Iv 70) rfl (Za (Zb (Zw (Zaj (Zy ?_)))))
  rw [show Zjz l = ((⟨(⟨0, 0, 0, dz, 0⟩ : Head), 0, dz⟩ : Signed), 70) from by unfold Zjz; rw [if_pos h1, if_neg h2, if_neg h3, if_pos h4, if_neg h5]]
  exact Zo (v := .tuple #[Z6 (⟨(⟨0, 0, 0, dz, 0⟩ : Head), 0, dz⟩ : Signed), Iv 70]) (by kernel_rfl) rfl rfl (by simp [Za1, rdB]) ⟨(Zeg (by kernel_rfl) rfl), rfl, trivial⟩
  refine Zv ((Zbs (G := G) ((Zk (oG l 1)).1) 1 3).res (congrArg Value.bool (Zc3 (by omega)))) (vals := [Iv ((Zk (oG l 1)).1), Iv 1, Iv 3]) (res' := .bool false) rfl rfl rfl rfl rfl rfl ?_
  refine Zhl (vx := .bool false) rfl rfl (.bool true) rfl Zdu ?_
  refine Zp rfl rfl (.bool true) rfl (Za (Zb (Zu rfl (Ze (Zf ?_)))))
  refine Zbf (vs := []) (v := Z6 (⟨(⟨0, 0, 0, dz, 0⟩ : Head), 0, dz⟩ : Signed)) rfl rfl rfl (by kernel_rfl) ?_
  refine Zj (p := pt 1 0) (v := Z6 (⟨(⟨0, 0, 0, dz, 0⟩ : Head), 0, dz⟩ : Signed)) (b := 1) (blk := bxB 69 (Zt (⟨(⟨0, 0, 0, dz, 0⟩ : Head), 0, dz⟩ : Signed))) (H' := [rdB l, bxB 69 (Zt (⟨(⟨0, 0, 0, dz, 0⟩ : Head), 0, dz⟩ : Signed)), bxB 1 ([.bool (((((((ofF l).1) && oP l 0) && oP l 1) && decide ((Zk (oG l 1)).2 = 0)) && oP l 2) && decide ((oG l 2).size = 32))]), rfB (slv 4 (pK (oN l) 3) (Z3 (oN l) (pK (oN l) 3)) (Z3 (oN l) (pK (oN l) 3))), txB ((ofF l).2), Zan (bl (oG l 0)), bxB 36 (Zae ((Zbo (bl (oG l 0))).1)), bxB 69 (Zt (⟨(Zbo (bl (oG l 0))).1, ((Zk (oG l 1)).1), (Zc5 ((((((ofF l).1) && oP l 0) && oP l 1) && decide ((Zk (oG l 1)).2 = 0)) && oP l 2) (oG l 2))⟩ : Signed))]) rfl rfl rfl (by kernel_rfl) (by kernel_rfl) ?_
  refine Zc rfl rfl (Iv 70) rfl (Za (Zb (Zw (Zaj (Zy ?_)))))
  rw [show Zjz l = ((⟨(⟨0, 0, 0, dz, 0⟩ : Head), 0, dz⟩ : Signed), 70) from by unfold Zjz; rw [if_pos h1, if_neg h2, if_neg h3, if_neg h4]]
  exact Zo (v := .tuple #[Z6 (⟨(⟨0, 0, 0, dz, 0⟩ : Head), 0, dz⟩ : Signed), Iv 70]) (by kernel_rfl) rfl rfl (by simp [Za1, rdB]) ⟨(Zeg (by kernel_rfl) rfl), rfl, trivial⟩
  refine Zhl (vx := .bool (((((((ofF l).1) && oP l 0) && oP l 1) && decide ((Zk (oG l 1)).2 = 0)) && oP l 2) && decide ((oG l 2).size = 32))) rfl rfl (.bool true) rfl (Eq.trans Zdu (congrArg (fun b => some (Value.bool !b)) h1)) ?_
  refine Zd rfl rfl (.bool true) rfl (Zn rfl rfl (Zn rfl rfl (Zp rfl rfl (.bool true) rfl (Zd rfl rfl (.bool true) rfl (Zn rfl rfl (Zn rfl rfl (Zn rfl rfl (Zn rfl rfl (Zn rfl rfl (Zp rfl rfl (.bool true) rfl (Zd rfl rfl (.bool true) rfl (Zn rfl rfl (Zn rfl rfl (Zn rfl rfl (Zn rfl rfl (Zp rfl rfl (.bool true) rfl (Za (Zb (Zu rfl (Ze (Zf ?_)))))))))))))))))))))
  refine Zbf (vs := []) (v := Z6 (⟨(⟨0, 0, 0, dz, 0⟩ : Head), 0, dz⟩ : Signed)) rfl rfl rfl (by kernel_rfl) ?_
  refine Zj (p := pt 1 0) (v := Z6 (⟨(⟨0, 0, 0, dz, 0⟩ : Head), 0, dz⟩ : Signed)) (b := 1) (blk := bxB 69 (Zt (⟨(⟨0, 0, 0, dz, 0⟩ : Head), 0, dz⟩ : Signed))) (H' := [rdB l, bxB 69 (Zt (⟨(⟨0, 0, 0, dz, 0⟩ : Head), 0, dz⟩ : Signed)), bxB 1 ([.bool (((((((ofF l).1) && oP l 0) && oP l 1) && decide ((Zk (oG l 1)).2 = 0)) && oP l 2) && decide ((oG l 2).size = 32))]), rfB (slv 4 (pK (oN l) 3) (Z3 (oN l) (pK (oN l) 3)) (Z3 (oN l) (pK (oN l) 3))), txB ((ofF l).2), Zan (bl (oG l 0)), bxB 36 (Zae ((Zbo (bl (oG l 0))).1)), bxB 69 (Zt (⟨(Zbo (bl (oG l 0))).1, ((Zk (oG l 1)).1), (Zc5 ((((((ofF l).1) && oP l 0) && oP l 1) && decide ((Zk (oG l 1)).2 = 0)) && oP l 2) (oG l 2))⟩ : Signed))]) rfl rfl rfl (by kernel_rfl) (by kernel_rfl) ?_
  refine Zc rfl rfl (Iv 70) rfl (Za (Zb (Zw (Zaj (Zy ?_)))))
  rw [show Zjz l = ((⟨(⟨0, 0, 0, dz, 0⟩ : Head), 0, dz⟩ : Signed), 70) from by unfold Zjz; rw [if_neg (by rw [h1]; decide)]]
  exact Zo (v := .tuple #[Z6 (⟨(⟨0, 0, 0, dz, 0⟩ : Head), 0, dz⟩ : Signed), Iv 70]) (by kernel_rfl) rfl rfl (by simp [Za1, rdB]) ⟨(Zeg (by kernel_rfl) rfl), rfl, trivial⟩
end Go.Flat
namespace Go.Flat
open Go.Proofs

theorem Zm4 (z : Int) (h0 : 0 ≤ z) : (BitVec.ofInt 8 z).toNat = z.toNat % 256 := by
 obtain ⟨n, rfl⟩ : ∃ n : Nat, z = n := ⟨z.toNat, by omega⟩
 rw [BitVec.ofInt_natCast, BitVec.toNat_ofNat]; rfl
theorem Z1b (f : Field) (rest : Bs) (h1 : 1 ≤ f.tag) (h2 : f.tag ≤ 255) (h3 : f.data.size ≤ 65536) (n : Nat) (hn : n = f.data.size + 4 + rest.length) : Zd5 (Zgo f ++ rest) n = (f, (f.data.size : Int) + 4, 0) := by
 have e : Zgo f ++ rest = BitVec.ofInt 8 f.tag :: BitVec.ofInt 8 (f.data.size / 65536 : Nat) :: BitVec.ofInt 8 (f.data.size / 256 : Nat) :: BitVec.ofInt 8 (f.data.size : Nat) :: (bl f.data ++ rest) := rfl
 rw [e]
 unfold Zd5
 have g0 : (BitVec.ofInt 8 f.tag :: BitVec.ofInt 8 (f.data.size / 65536 : Nat) :: BitVec.ofInt 8 (f.data.size / 256 : Nat) :: BitVec.ofInt 8 (f.data.size : Nat) :: (bl f.data ++ rest)).getD 0 0 = BitVec.ofInt 8 f.tag := rfl
 have g1 : (BitVec.ofInt 8 f.tag :: BitVec.ofInt 8 (f.data.size / 65536 : Nat) :: BitVec.ofInt 8 (f.data.size / 256 : Nat) :: BitVec.ofInt 8 (f.data.size : Nat) :: (bl f.data ++ rest)).getD 1 0 = BitVec.ofInt 8 (f.data.size / 65536 : Nat) := rfl
 have g2 : (BitVec.ofInt 8 f.tag :: BitVec.ofInt 8 (f.data.size / 65536 : Nat) :: BitVec.ofInt 8 (f.data.size / 256 : Nat) :: BitVec.ofInt 8 (f.data.size : Nat) :: (bl f.data ++ rest)).getD 2 0 = BitVec.ofInt 8 (f.data.size / 256 : Nat) := rfl
 have g3 : (BitVec.ofInt 8 f.tag :: BitVec.ofInt 8 (f.data.size / 65536 : Nat) :: BitVec.ofInt 8 (f.data.size / 256 : Nat) :: BitVec.ofInt 8 (f.data.size : Nat) :: (bl f.data ++ rest)).getD 3 0 = BitVec.ofInt 8 (f.data.size : Nat) := rfl
 have t0 := Zm4 f.tag (by omega)
 have t1 := Zm4 ((f.data.size / 65536 : Nat) : Int) (by omega)
 have t2 := Zm4 ((f.data.size / 256 : Nat) : Int) (by omega)
 have t3 := Zm4 ((f.data.size : Nat) : Int) (by omega)
 rw [g0, g1, g2, g3, t0, t1, t2, t3]
 have hs : 65536 * (((f.data.size / 65536 : Nat) : Int).toNat % 256) + 256 * (((f.data.size / 256 : Nat) : Int).toNat % 256) + ((f.data.size : Nat) : Int).toNat % 256 = f.data.size := by omega
 rw [if_neg (by omega), if_neg (by
  rw [beq_iff_eq]
  intro h
  have := congrArg BitVec.toNat h
  rw [t0] at this
  simp at this
  omega), if_neg (by omega), if_neg (by omega)]
 rw [hs]
 have e4 : ((BitVec.ofInt 8 f.tag :: BitVec.ofInt 8 (f.data.size / 65536 : Nat) :: BitVec.ofInt 8 (f.data.size / 256 : Nat) :: BitVec.ofInt 8 (f.data.size : Nat) :: (bl f.data ++ rest)).drop 4).take f.data.size = bl f.data := by
  show (bl f.data ++ rest).take f.data.size = bl f.data
  rw [List.take_append_of_le_length (by rw [Zes]; exact Nat.le_refl _), List.take_of_length_le (by rw [Zes]; exact Nat.le_refl _)]
 rw [e4, Zu5]
 have et : ((f.tag.toNat % 256 : Nat) : Int) = f.tag := by omega
 rw [et]
 have ez : 65536 * ((((f.data.size / 65536 : Nat) : Int).toNat % 256 : Nat) : Int) + 256 * ((((f.data.size / 256 : Nat) : Int).toNat % 256 : Nat) : Int) + ((((f.data.size : Nat) : Int).toNat % 256 : Nat) : Int) + 4 = (f.data.size : Int) + 4 := by omega
 rw [ez]
theorem Zrn : ∀ (ls : List ByteArray) (k f : Nat) (acc : List Field), (Zjr k ls).length < f → k + ls.length ≤ 255 → (∀ x, x ∈ ls → x.size ≤ 65536) → Zgz f (Zjr k ls) (k : Nat) acc = (acc ++ Zfr k ls, 0)
 | [], k, f, acc, hf, h, hs => by
  cases f with
  | zero => omega
  | succ f => rw [Zgz]; simp [Zjr, Zfr]
 | x :: l, k, f, acc, hf, h, hs => by
  simp only [List.length_cons] at h
  have hx := hs x (by simp)
  cases f with
  | zero => omega
  | succ f =>
   have hlen : (Zjr k (x :: l)).length = x.size + 4 + (Zjr (k + 1) l).length := by rw [Zjr, List.length_append, Zmw]
   have hg := Z1b ⟨(k : Int) + 1, x⟩ (Zjr (k + 1) l) (by dsimp only; omega) (by dsimp only; omega) hx (Zjr k (x :: l)).length hlen
   rw [Zgz, if_neg (by rw [hlen]; omega)]
   rw [show Zjr k (x :: l) = Zgo ⟨(k : Int) + 1, x⟩ ++ Zjr (k + 1) l from rfl] at hg hf ⊢
   rw [hg]
   rw [if_neg (by simp), if_neg (by dsimp only; omega)]
   have ed : (Zgo ⟨(k : Int) + 1, x⟩ ++ Zjr (k + 1) l).drop ((x.size : Int) + 4).toNat = Zjr (k + 1) l := by
    have : ((x.size : Int) + 4).toNat = (Zgo ⟨(k : Int) + 1, x⟩).length := by rw [Zmw]; omega
    rw [this, List.drop_left]
   show Zgz f ((Zgo ⟨(k : Int) + 1, x⟩ ++ Zjr (k + 1) l).drop ((x.size : Int) + 4).toNat) ((k : Int) + 1) (acc ++ [⟨(k : Int) + 1, x⟩]) = _
   rw [ed]
   have := Zrn l (k + 1) f (acc ++ [⟨(k : Int) + 1, x⟩]) (by rw [List.length_append, Zmw] at hf; omega) (by omega) (fun y hy => hs y (by simp [hy]))
   rw [show ((k + 1 : Nat) : Int) = (k : Int) + 1 by omega] at this
   rw [this, List.append_assoc]; rfl
end Go.Flat
namespace Go.Flat
open Go.Proofs
theorem Zuk (ls : List ByteArray) (h : ls.length ≤ 255) (hs : ∀ x, x ∈ ls → x.size ≤ 65536) : Zl (Zaf ls) = (Zfr 0 ls, 0) := by
 rw [Z0v ls h hs]
 have := Zrn ls 0 ((Zjr 0 ls).length + 1) [] (by omega) (by omega) hs
 unfold Zl
 rw [List.nil_append] at this
 exact this
theorem Zuc : ∀ (ls : List ByteArray) (k : Nat) (ok : Bool) (acc : List ByteArray), ofL (Zfr k ls) k ok acc = (ok, acc ++ ls)
 | [], k, ok, acc => by simp [Zfr, ofL]
 | x :: l, k, ok, acc => by
  rw [Zfr, ofL, Zuc l (k + 1), decide_eq_true rfl, Bool.and_true, List.append_assoc]; rfl
theorem Zri (ls : List ByteArray) (h : ls.length ≤ 255) (hs : ∀ x, x ∈ ls → x.size ≤ 65536) : ofF (Zaf ls) = (true, ls) := by
 unfold ofF
 rw [Zuk ls h hs, Zuc]; rfl
theorem Zu9 : ∀ (f n : Nat) (acc : Bs), n < 256 ^ f → n ≤ 4611686018427387903 → Zkz (beL f n acc) 0 = Zkz acc n
 | 0, n, acc, h, _ => by
  have : n = 0 := by simpa using h
  subst this; rfl
 | f + 1, n, acc, h, hn => by
  rw [beL]
  split
  ·rename_i h0; subst h0; rfl
  ·rw [Zu9 f (n / 256) _ (by rw [Nat.pow_succ] at h; exact Nat.div_lt_of_lt_mul (by omega)) (by omega), Zkz, if_neg (by omega)]
   have e := Zm4 ((n : Nat) : Int) (by omega)
   rw [e]
   congr 1
   omega
theorem Zti : ∀ (f n : Nat) (acc : Bs), n < 256 ^ f → 0 < n → (beL f n acc).getD 0 0 ≠ 0#8
 | 0, n, acc, h, h0 => by
  have : n = 0 := by simpa using h
  omega
 | f + 1, n, acc, h, h0 => by
  rw [beL, if_neg (by omega)]
  rcases Nat.eq_zero_or_pos (n / 256) with h1 | h1
  ·rw [h1, Ztj]
   intro hz
   have hz' : BitVec.ofInt 8 ((n : Nat) : Int) = 0#8 := hz
   have e := Zm4 ((n : Nat) : Int) (by omega)
   rw [hz'] at e
   simp at e
   omega
  ·exact Zti f (n / 256) _ (by rw [Nat.pow_succ] at h; exact Nat.div_lt_of_lt_mul (by omega)) h1
theorem Zi6 {n : Int} (h0 : 0 ≤ n) (h1 : n ≤ 4611686018427387903) : Zk (Zao n).1 = (n, 0) := by
 have e : (Zao n).1 = Zs (beL 8 n.toNat []) := by
  unfold Zao
  rw [if_pos ⟨h0, h1⟩, Z31]
 have hlt : n.toNat < 256 ^ 8 := by
  have : (256 : Nat) ^ 8 = 18446744073709551616 := by decide
  omega
 refine Zok (Zcs n) (fun hsz => ?_) ?_
 ·rw [e, Zin]
  rcases Nat.eq_zero_or_pos n.toNat with hz | hz
  ·rw [e, Za3, hz, Ztj] at hsz; simp at hsz
  ·exact beq_eq_false_iff_ne.2 (Zti 8 n.toNat [] hlt hz)
 ·rw [e, Zin, Zu9 8 n.toNat [] hlt (by omega), Zkz]
  congr 1
  omega
theorem Zxn (d : D) : Zbm 32 (cpD (Zs (dgL d))) d = true := by
 unfold Zbm
 rw [List.all_eq_true]
 intro i hi
 have hi' : i < 32 := by simpa using hi
 rw [beq_iff_eq]
 unfold cpD
 rw [Za3, Zei, if_pos hi', Zin]
 simp [dgL, hi']
end Go.Flat
namespace Go.Flat
open Go.Proofs
theorem Zy6 {l : Bs} {a b c d e : ByteArray} {x0 x1 x2 x4 : Int} (ho : ofF l = (true, [a, b, c, d, e])) (h0 : Zk a = (x0, 0)) (h1 : Zk b = (x1, 0)) (h2 : Zk c = (x2, 0)) (h3 : d.size = 32) (h4 : Zk e = (x4, 0)) (hr : Zex ⟨x0, x1, x2, cpD d, x4⟩) : Zbo l = (⟨x0, x1, x2, cpD d, x4⟩, 0) := by
 have p0 : pK 5 0 = 0 := rfl
 have p1 : pK 5 1 = 1 := rfl
 have p2 : pK 5 2 = 2 := rfl
 have p3 : pK 5 3 = 3 := rfl
 have p4 : pK 5 4 = 4 := rfl
 have p5 : Z3 5 (pK 5 5) = 0 := rfl
 have q0 : [a, b, c, d, e].getD 0 ⟨#[]⟩ = a := rfl
 have q1 : [a, b, c, d, e].getD 1 ⟨#[]⟩ = b := rfl
 have q2 : [a, b, c, d, e].getD 2 ⟨#[]⟩ = c := rfl
 have q3 : [a, b, c, d, e].getD 3 ⟨#[]⟩ = d := rfl
 have q4 : [a, b, c, d, e].getD 4 ⟨#[]⟩ = e := rfl
 have hl : [a, b, c, d, e].length = 5 := rfl
 have hc : Zbd ⟨x0, x1, x2, cpD d, x4⟩ = 0 := by rw [Zip, if_pos hr]
 have hd : Zc5 true d = cpD d := rfl
 unfold Zbo
 rw [ho]
 dsimp only
 rw [hl, p0, p1, p2, p3, p4, p5, q0, q1, q2, q3, q4, h0, h1, h2, h3, h4]
 simp [hd, hc]
theorem Zy7 {h : Head} (hr : Zex h) : (Zbo (Zaf (Zek h))).2 = 0 ∧ Zid (Zbo (Zaf (Zek h))).1 h = true := by
 have ho := Zri (Zek h) (by simp [Zek]) (Z1d h)
 have hr' := hr
 unfold Zex at hr'
 have hg := Zy6 (l := Zaf (Zek h)) ho (Zi6 (n := h.region) (by omega) (by omega)) (Zi6 (n := h.epoch) (by omega) (by omega)) (Zi6 (n := h.size) (by omega) (by omega)) (by rw [Za3, Zei]) (Zi6 (n := h.tick) (by omega) (by omega)) (by unfold Zex; exact hr')
 rw [hg]
 refine ⟨rfl, ?_⟩
 unfold Zid
 simp [Zxn]
end Go.Flat
namespace Go.Flat
open Go.Proofs
theorem Zvx {l : Bs} {a b c : ByteArray} {x1 : Int} {h : Head} (ho : ofF l = (true, [a, b, c])) (h0 : Zbo (bl a) = (h, 0)) (h1 : Zk b = (x1, 0)) (h3 : c.size = 32) (hn : 1 ≤ x1 ∧ x1 ≤ 3) : Zjz l = (⟨h, x1, cpD c⟩, 0) := by
 have p0 : pK 3 0 = 0 := rfl
 have p1 : pK 3 1 = 1 := rfl
 have p2 : pK 3 2 = 2 := rfl
 have p3 : Z3 3 (pK 3 3) = 0 := rfl
 have q0 : [a, b, c].getD 0 ⟨#[]⟩ = a := rfl
 have q1 : [a, b, c].getD 1 ⟨#[]⟩ = b := rfl
 have q2 : [a, b, c].getD 2 ⟨#[]⟩ = c := rfl
 have hl : [a, b, c].length = 3 := rfl
 have hd : Zc5 true c = cpD c := rfl
 unfold Zjz
 rw [ho]
 dsimp only
 rw [hl, p0, p1, p2, p3, q0, q1, q2, h0, h1, h3]
 simp [hd, hn.1, hn.2]
theorem Zy8 {s : Signed} (hm : Zt8 s) : (Zjz (Zaf (Zaq s))).2 = 0 ∧ Zfu (Zjz (Zaf (Zaq s))).1 s = true := by
 have ho := Zri (Zaq s) (by simp [Zaq]) (Zwg s)
 have hg := Zy7 hm.1
 have h0 : Zbo (bl (Zs (Zaf (Zek s.head)))) = ((Zbo (Zaf (Zek s.head))).1, 0) := by
  rw [Zin, ← hg.1]
 have hn := hm.2
 have hs := Zvx (l := Zaf (Zaq s)) ho h0 (Zi6 (n := s.node) (by omega) (by omega)) (by rw [Za3, Zei]) hn
 rw [hs]
 refine ⟨rfl, ?_⟩
 unfold Zfu
 simp [Zxn, hg.2]
theorem Zvq (a b : Head) : Zid a b = true ↔ a.region = b.region ∧ a.epoch = b.epoch ∧ a.size = b.size ∧ Zbm 32 a.root b.root = true ∧ a.tick = b.tick := by
 simp [Zid]
theorem Zwf {n : Nat} {a b : D} (h : Zbm n a b = true) : Zbm n b a = true := by rw [Znf] at h ⊢; exact h.symm
theorem Zsk (a b : Signed) : Zfu a b = true ↔ Zid a.head b.head = true ∧ a.node = b.node ∧ Zbm 32 a.tag b.tag = true := by
 simp [Zfu]
end Go.Flat
namespace Go.Flat

abbrev Stp := D × Bool
def Zij (size index : Nat) (ds : List D) : Option (List Stp) :=
  if h : size ≤ 1 then (if ds.length = 0 then some [] else none)
  else if ds.length = 0 then none
  else if index < Zz size then (Zij (Zz size) index (ds.take (ds.length - 1))).map fun l => (ds.getD (ds.length - 1) d0, false) :: l
  else (Zij (size - Zz size) (index - Zz size) (ds.take (ds.length - 1))).map fun l => (ds.getD (ds.length - 1) d0, true) :: l
termination_by size
decreasing_by
  · exact (Zb1 (n := size) (by omega)).2
  · have := Zb1 (n := size) (by omega); omega
theorem Zi7 {size : Nat} (index : Nat) (ds : List D) (h : size ≤ 1) : Zij size index ds = if ds.length = 0 then some [] else none := by
 rw [Zij, dif_pos h]
theorem Zvb {size : Nat} (index : Nat) {ds : List D} (h : 2 ≤ size) (h0 : ds.length = 0) : Zij size index ds = none := by
 rw [Zij, dif_neg (by omega), if_pos h0]
theorem Zom {size index : Nat} {ds : List D} (h : 2 ≤ size) (h0 : 0 < ds.length) (hi : index < Zz size) : Zij size index ds = (Zij (Zz size) index (ds.take (ds.length - 1))).map fun l => (ds.getD (ds.length - 1) d0, false) :: l := by
 rw [Zij, dif_neg (by omega), if_neg (by omega), if_pos hi]
theorem Zol {size index : Nat} {ds : List D} (h : 2 ≤ size) (h0 : 0 < ds.length) (hi : Zz size ≤ index) : Zij size index ds = (Zij (size - Zz size) (index - Zz size) (ds.take (ds.length - 1))).map fun l => (ds.getD (ds.length - 1) d0, true) :: l := by
 rw [Zij, dif_neg (by omega), if_neg (by omega), if_neg (by omega)]
theorem Zqb : ∀ (t : Nat) (size index : Nat) (ds : List D) (l : List Stp), size ≤ 2 ^ t → Zij size index ds = some l → l.length = ds.length ∧ ds.length ≤ t
  | 0, size, index, ds, l, h, hw => by
    rw [Zi7 index ds (by simpa using h)] at hw
    split at hw
    · rename_i h0
      injection hw with hw; subst hw
      exact ⟨h0.symm, by omega⟩
    · cases hw
  | t + 1, size, index, ds, l, h, hw => by
    by_cases h2 : 2 ≤ size
    · rcases Nat.eq_zero_or_pos ds.length with h0 | h0
      · rw [Zvb index h2 h0] at hw; cases hw
      · have e := Zi3 h2
        have h1 := Nat.log2_self_le (n := size - 1) (by omega)
        have h3 := Nat.lt_log2_self (n := size - 1)
        rw [Nat.pow_succ, ← e] at h3
        rw [← e] at h1
        have hk : Zz size ≤ 2 ^ t := by
          rw [e]
          refine Nat.pow_le_pow_right (by decide) ?_
          have : 2 ^ (size - 1).log2 < 2 ^ (t + 1) := by rw [← e]; omega
          have := (Nat.pow_lt_pow_iff_right (a := 2) (by decide)).1 this
          omega
        by_cases hi : index < Zz size
        · rw [Zom h2 h0 hi] at hw
          obtain ⟨l', h4, rfl⟩ := Option.map_eq_some_iff.1 hw
          have := Zqb t _ _ _ _ hk h4
          simp at this ⊢
          omega
        · rw [Zol h2 h0 (by omega)] at hw
          obtain ⟨l', h4, rfl⟩ := Option.map_eq_some_iff.1 hw
          have := Zqb t _ _ _ _ (by omega) h4
          simp at this ⊢
          omega
    · rw [Zi7 index ds (by omega)] at hw
      split at hw
      · rename_i h0
        injection hw with hw; subst hw
        exact ⟨h0.symm, by omega⟩
      · cases hw
def knA (kk : Nat → BitVec 32) (leaf : D) : List Stp → List D
  | [] => [leaf]
  | (b, r) :: t => (if r then Zba kk b ((knA kk leaf t).getD 0 d0) else Zba kk ((knA kk leaf t).getD 0 d0) b) :: knA kk leaf t
theorem Zx2 (kk : Nat → BitVec 32) (leaf : D) : ∀ l, (knA kk leaf l).length = l.length + 1
 | [] => rfl
 | (b, r) :: t => by simp [knA, Zx2 kk leaf t]
def tx (a b : D) : ByteArray := Zql ++ Zs (dgL a) ++ Zs (dgL b)
def knT (kk : Nat → BitVec 32) (leaf : D) : List Stp → List ByteArray
  | [] => []
  | (b, r) :: t => (if r then tx b ((knA kk leaf t).getD 0 d0) else tx ((knA kk leaf t).getD 0 d0) b) :: knT kk leaf t

def Zfe (l : List Stp) : List Value := (l.map fun p => Zaa w8 32 p.1 ++ [Value.bool p.2]).flatten
def Zcp (l : List Stp) : Blk := { cells := Zfe l, sz := 33, wr := true, fix := false, mv := true, pur := true }
def Zjt (l : List Stp) : Blk := { cells := Zfe l, sz := 33, wr := false, fix := false, mv := true, pur := true }
theorem Zmg (l : List Stp) : (Zfe l).length = l.length * 33 := by
 induction l with
 | nil => rfl
 | cons p l ih => simp only [Zfe, List.map_cons, List.flatten_cons, List.length_append, Zbl, List.length_cons, List.length_nil] at ih ⊢; omega
theorem Zu4 (p q : List Stp) : Zfe (p ++ q) = Zfe p ++ Zfe q := by simp [Zfe]
theorem Zz5 (l : List Stp) : (Zfe l).all Zbh = true := by
 induction l with
 | nil => rfl
 | cons p l ih =>
  have : Zfe (p :: l) = Zaa w8 32 p.1 ++ [Value.bool p.2] ++ Zfe l := by simp [Zfe]
  rw [this, List.all_append, List.all_append, Zrp, ih]; rfl
end Go.Flat
