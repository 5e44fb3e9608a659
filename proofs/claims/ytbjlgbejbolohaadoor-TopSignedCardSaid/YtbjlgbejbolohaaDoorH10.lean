/- Walks. -/
import Derived.Test.YtbjlgbejbolohaaDoorH5
import Derived.Test.YtbjlgbejbolohaaDoorFlatG
set_option linter.unusedVariables false
set_option linter.unusedSimpArgs false
set_option maxRecDepth 20000
namespace Go.Flat
open Go.Proofs
variable {G : Glob}
def Zem : ByteArray := ⟨#[104, 101, 97, 100, 32]⟩
theorem Zkt : Zem.size = 5 := rfl
theorem Zl9 (h : Head) : (Zad h).2 = Zbd h := by
 unfold Zad
 split
 ·rename_i h0; exact h0.symm
 ·rfl
def Zwv : List Field → Nat
  | [] => 0
  | f :: l => f.data.size + 4 + Zwv l
theorem Zl3 : ∀ (fs : List Field) (last : Int) (acc : Bs), (Zc6 fs last acc).1.length ≤ acc.length + Zwv fs
 | [], _, acc => by simp [Zc6, Zwv]
 | f :: fs, last, acc => by
  rw [Zc6]
  split
  ·have := Zl3 fs f.tag (acc ++ Zgo f)
   rw [List.length_append, Zlz] at this
   simp only [Zwv]; omega
  ·simp
theorem Zub : ∀ (f n a : Nat) (b : D), (Zkf f n a b).length ≤ 8
 | 0, n, a, b => by rw [Zkf, List.length_drop, Zi1]; omega
 | f + 1, n, a, b => by
  rw [Zkf]
  split
  ·rw [List.length_drop, Zi1]; omega
  ·exact Zub f _ _ _
theorem Zcs (n : Int) : (Zao n).1.size ≤ 8 := by
 unfold Zao
 split
 ·rw [Za3]; exact Zub _ _ _ _
 ·show 0 ≤ 8; omega
theorem Zpt (h : Head) : (Zad h).1.length ≤ 100 := by
 unfold Zad
 split
 ·have := Zl3 (Zfr 0 (Zek h)) 0 []
  simp only [Zek, Zfr, Zwv, Za3, Zei, List.length_nil] at this
  have h1 := Zcs h.region
  have h2 := Zcs h.epoch
  have h3 := Zcs h.size
  have h4 := Zcs h.tick
  show (Zc6 (Zfr 0 (Zek h)) 0 []).1.length ≤ 100
  simp only [Zek, Zfr]
  omega
 ·simp
def Zk3 (s : Signed) : Bs × Int := if Zbd s.head = 0 ∧ 1 ≤ s.node ∧ s.node ≤ 3 then (Zaf [Zs (Zad s.head).1, (Zao s.node).1, Zs (dgL s.tag)], 0) else ([], 70)
def Zk5 (kk : Nat → BitVec 32) (master : D) (h : Head) (node : Int) : Signed × Int :=
  if ((Zad h).2) ≠ 0 then ((⟨(⟨0, 0, 0, dz, 0⟩ : Head), 0, dz⟩ : Signed), ((Zad h).2)) else
  if ((Zbq kk master h.region node).2) ≠ 0 then ((⟨(⟨0, 0, 0, dz, 0⟩ : Head), 0, dz⟩ : Signed), 70) else
  ((⟨h, node, (Zf6 kk ((Zbq kk master h.region node).1) (Zem ++ (Zs ((Zad h).1))))⟩ : Signed), 0)
theorem Z23 (kk : Nat → BitVec 32) (hG : G 0 = some (Zaa w32 64 kk)) (master : D) (h : Head) (node : Int) : Zac Tryd.prog G 8 [dgV master, Zbp h, Iv node] [] (.tuple #[Z6 (Zk5 kk master h node).1, Iv (Zk5 kk master h node).2]) [] := by
 refine Zb8 (fn := Tryd.f8) (nt := 39) rfl rfl rfl rfl ?_
 refine Zah 5 (H' := [hole, hole, hole, hole, hole]) rfl ?_
 refine Ze (Zf ?_)
 refine Zdc (v := dgV master) (b := dgB master) (nid := 0) (H' := [dgB master, hole, hole, hole, hole]) rfl rfl rfl (by kernel_rfl) (by kernel_rfl) ?_
 refine Zdc (v := Zbp h) (b := bxB 36 (Zae h)) (nid := 1) (H' := [dgB master, bxB 36 (Zae h), hole, hole, hole]) rfl rfl rfl (by kernel_rfl) (by kernel_rfl) ?_
 refine Zq (b := bxB 69 (Zt (⟨(⟨0, 0, 0, dz, 0⟩ : Head), 0, dz⟩ : Signed))) (nid := 2) (H' := [dgB master, bxB 36 (Zae h), bxB 69 (Zt (⟨(⟨0, 0, 0, dz, 0⟩ : Head), 0, dz⟩ : Signed)), hole, hole]) rfl rfl (by kernel_rfl) (by kernel_rfl) ?_
 refine Zc rfl rfl (Iv 0) rfl (Za (Zb (Ze (Zf ?_))))
 refine Zg (p := pt 1 0) (v := Zbp h) rfl rfl rfl (by kernel_rfl) ?_
 have hpe4 := Zl9 h
 have hpl4 := Zpt h
 refine Zab (e := []) (nid := 3) (Zvd (G := G) h) (vals := [Zbp h]) (v := .tuple #[slv 3 0 ((Zad h).1.length) ((Zad h).1.length), Iv ((Zad h).2)]) (H' := [dgB master, bxB 36 (Zae h), bxB 69 (Zt (⟨(⟨0, 0, 0, dz, 0⟩ : Head), 0, dz⟩ : Signed)), Zan ((Zad h).1), hole]) rfl rfl rfl rfl rfl rfl rfl ⟨⟨rfl, trivial⟩, trivial, rfl, rfl, rfl⟩ (by kernel_rfl) (by kernel_rfl) ?_
 refine Zd rfl rfl (.tuple #[slv 3 0 ((Zad h).1.length) ((Zad h).1.length), Iv ((Zad h).2)]) rfl (Z5 (vs := #[slv 3 0 ((Zad h).1.length) ((Zad h).1.length), Iv ((Zad h).2)]) (v := slv 3 0 ((Zad h).1.length) ((Zad h).1.length)) rfl rfl rfl rfl (Z5 (vs := #[slv 3 0 ((Zad h).1.length) ((Zad h).1.length), Iv ((Zad h).2)]) (v := Iv ((Zad h).2)) rfl rfl rfl rfl (Zc rfl rfl (slv 3 0 ((Zad h).1.length) ((Zad h).1.length)) rfl (Zc rfl rfl (Iv ((Zad h).2)) rfl (Za (Zb (Ze (Ze (Zf (Zd rfl rfl (Iv ((Zad h).2)) rfl ?_))))))))))
 by_cases h1 : ((Zad h).2) ≠ 0
 refine Zi (vx := Iv ((Zad h).2)) (vy := Iv 0) rfl rfl (.bool true) rfl rfl (Zke (by omega)) ?_
 refine Za (Zb (Zu rfl (Ze (Zf ?_))))
 refine Zbf (vs := []) (v := Z6 (⟨(⟨0, 0, 0, dz, 0⟩ : Head), 0, dz⟩ : Signed)) rfl rfl rfl (by kernel_rfl) ?_
 refine Zd rfl rfl (Iv ((Zad h).2)) rfl ?_
 refine Zj (p := pt 2 0) (v := Z6 (⟨(⟨0, 0, 0, dz, 0⟩ : Head), 0, dz⟩ : Signed)) (b := 2) (blk := bxB 69 (Zt (⟨(⟨0, 0, 0, dz, 0⟩ : Head), 0, dz⟩ : Signed))) (H' := [dgB master, bxB 36 (Zae h), bxB 69 (Zt (⟨(⟨0, 0, 0, dz, 0⟩ : Head), 0, dz⟩ : Signed)), Zan ((Zad h).1), hole]) rfl rfl rfl (by kernel_rfl) (by kernel_rfl) ?_
 refine Zc rfl rfl (Iv ((Zad h).2)) rfl (Za (Zb (Zw (Zaj (Zy ?_)))))
 rw [show Zk5 kk master h node = ((⟨(⟨0, 0, 0, dz, 0⟩ : Head), 0, dz⟩ : Signed), ((Zad h).2)) from by unfold Zk5; rw [if_pos h1]]
 exact Zo (v := .tuple #[Z6 (⟨(⟨0, 0, 0, dz, 0⟩ : Head), 0, dz⟩ : Signed), Iv ((Zad h).2)]) (by kernel_rfl) rfl rfl (by kernel_rfl) ⟨(Zeg (by kernel_rfl) rfl), rfl, trivial⟩
 refine Zi (vx := Iv ((Zad h).2)) (vy := Iv 0) rfl rfl (.bool false) rfl rfl (Zen (by omega)) ?_
 refine Za (Zb (Zr rfl (Z0 (Zb (Ze (Zf ?_))))))
 refine Zg (p := pt 0 0) (v := dgV master) rfl rfl rfl (by kernel_rfl) ?_
 refine Zh (b := 1) (o := 0) (n := 0) (o' := 0) rfl rfl rfl rfl rfl ?_
 refine Zg (p := pt 1 0) (v := Iv h.region) rfl rfl rfl (by kernel_rfl) ?_
 refine Zd rfl rfl (Iv node) rfl ?_
 refine Zv (Z0e (G := G) kk hG master h.region node) (vals := [dgV master, Iv h.region, Iv node]) (res' := .tuple #[dgV ((Zbq kk master h.region node).1), Iv ((Zbq kk master h.region node).2)]) rfl rfl rfl rfl rfl (by kernel_rfl) ?_
 refine Zd rfl rfl (.tuple #[dgV ((Zbq kk master h.region node).1), Iv ((Zbq kk master h.region node).2)]) rfl (Z5 (vs := #[dgV ((Zbq kk master h.region node).1), Iv ((Zbq kk master h.region node).2)]) (v := dgV ((Zbq kk master h.region node).1)) rfl rfl rfl rfl (Z5 (vs := #[dgV ((Zbq kk master h.region node).1), Iv ((Zbq kk master h.region node).2)]) (v := Iv ((Zbq kk master h.region node).2)) rfl rfl rfl rfl ?_))
 refine Zq (b := dgB dz) (nid := 4) (H' := [dgB master, bxB 36 (Zae h), bxB 69 (Zt (⟨(⟨0, 0, 0, dz, 0⟩ : Head), 0, dz⟩ : Signed)), Zan ((Zad h).1), dgB dz]) rfl rfl (by kernel_rfl) (by kernel_rfl) ?_
 refine Zj (p := pt 4 0) (v := dgV ((Zbq kk master h.region node).1)) (b := 4) (blk := dgB ((Zbq kk master h.region node).1)) (H' := [dgB master, bxB 36 (Zae h), bxB 69 (Zt (⟨(⟨0, 0, 0, dz, 0⟩ : Head), 0, dz⟩ : Signed)), Zan ((Zad h).1), dgB ((Zbq kk master h.region node).1)]) rfl rfl rfl (by kernel_rfl) (by kernel_rfl) ?_
 refine Zc rfl rfl (Iv ((Zbq kk master h.region node).2)) rfl (Za (Zb (Ze (Ze (Zf (Zd rfl rfl (Iv ((Zbq kk master h.region node).2)) rfl ?_))))))
 by_cases h2 : ((Zbq kk master h.region node).2) ≠ 0
 refine Zi (vx := Iv ((Zbq kk master h.region node).2)) (vy := Iv 0) rfl rfl (.bool true) rfl rfl (Zke (by omega)) ?_
 refine Za (Zb (Zu rfl (Ze (Zf ?_))))
 refine Zbf (vs := []) (v := Z6 (⟨(⟨0, 0, 0, dz, 0⟩ : Head), 0, dz⟩ : Signed)) rfl rfl rfl (by kernel_rfl) ?_
 refine Zj (p := pt 2 0) (v := Z6 (⟨(⟨0, 0, 0, dz, 0⟩ : Head), 0, dz⟩ : Signed)) (b := 2) (blk := bxB 69 (Zt (⟨(⟨0, 0, 0, dz, 0⟩ : Head), 0, dz⟩ : Signed))) (H' := [dgB master, bxB 36 (Zae h), bxB 69 (Zt (⟨(⟨0, 0, 0, dz, 0⟩ : Head), 0, dz⟩ : Signed)), Zan ((Zad h).1), dgB ((Zbq kk master h.region node).1)]) rfl rfl rfl (by kernel_rfl) (by kernel_rfl) ?_
 refine Zc rfl rfl (Iv 70) rfl (Za (Zb (Zw (Zaj (Zy ?_)))))
 rw [show Zk5 kk master h node = ((⟨(⟨0, 0, 0, dz, 0⟩ : Head), 0, dz⟩ : Signed), 70) from by unfold Zk5; rw [if_neg h1, if_pos h2]]
 exact Zo (v := .tuple #[Z6 (⟨(⟨0, 0, 0, dz, 0⟩ : Head), 0, dz⟩ : Signed), Iv 70]) (by kernel_rfl) rfl rfl (by kernel_rfl) ⟨(Zeg (by kernel_rfl) rfl), rfl, trivial⟩
 refine Zi (vx := Iv ((Zbq kk master h.region node).2)) (vy := Iv 0) rfl rfl (.bool false) rfl rfl (Zen (by omega)) ?_
 refine Za (Zb (Zr rfl (Z0 (Zb (Ze ?_)))))
 refine Zfs (by kernel_rfl) ?_
 refine Zg (p := pt 1 0) (v := Zbp h) rfl rfl rfl (by kernel_rfl) ?_
 refine Zd rfl rfl (Iv node) rfl ?_
 refine Zg (p := pt 4 0) (v := dgV ((Zbq kk master h.region node).1)) rfl rfl rfl (by kernel_rfl) ?_
 refine Zd rfl rfl (slv 3 0 ((Zad h).1.length) ((Zad h).1.length)) rfl ?_
 refine Zgy (p := slv 3 0 ((Zad h).1.length) ((Zad h).1.length)) (v := .string (Zs ((Zad h).1))) rfl rfl rfl (Zkx rfl rfl rfl rfl rfl (by omega)) ?_
 refine Zi (vx := .string Zem) (vy := .string (Zs ((Zad h).1))) rfl rfl (.string (Zem ++ (Zs ((Zad h).1)))) rfl rfl (Zkn (by simp only [ByteArray.size_append, Za3, Zhu, Zei, Zkt]; omega)) ?_
 refine Zv (Zvc (G := G) kk hG ((Zbq kk master h.region node).1) (Zem ++ (Zs ((Zad h).1))) (by simp only [ByteArray.size_append, Za3, Zkt]; omega)) (vals := [dgV ((Zbq kk master h.region node).1), .string (Zem ++ (Zs ((Zad h).1)))]) (res' := dgV (Zf6 kk ((Zbq kk master h.region node).1) (Zem ++ (Zs ((Zad h).1))))) rfl rfl rfl rfl rfl (by kernel_rfl) ?_
 refine Zbf (vs := [(0, Zbp h), (1, Iv node), (2, dgV (Zf6 kk ((Zbq kk master h.region node).1) (Zem ++ (Zs ((Zad h).1)))))]) (v := Z6 (⟨h, node, (Zf6 kk ((Zbq kk master h.region node).1) (Zem ++ (Zs ((Zad h).1))))⟩ : Signed)) rfl rfl rfl (by kernel_rfl) ?_
 refine Zj (p := pt 2 0) (v := Z6 (⟨h, node, (Zf6 kk ((Zbq kk master h.region node).1) (Zem ++ (Zs ((Zad h).1))))⟩ : Signed)) (b := 2) (blk := bxB 69 (Zt (⟨h, node, (Zf6 kk ((Zbq kk master h.region node).1) (Zem ++ (Zs ((Zad h).1))))⟩ : Signed))) (H' := [dgB master, bxB 36 (Zae h), bxB 69 (Zt (⟨h, node, (Zf6 kk ((Zbq kk master h.region node).1) (Zem ++ (Zs ((Zad h).1))))⟩ : Signed)), Zan ((Zad h).1), dgB ((Zbq kk master h.region node).1)]) rfl rfl rfl (by kernel_rfl) (by kernel_rfl) ?_
 refine Zc rfl rfl (Iv 0) rfl ?_
 refine Zfg (by kernel_rfl) ?_
 refine Zb (Zw (Zy ?_))
 rw [show Zk5 kk master h node = ((⟨h, node, (Zf6 kk ((Zbq kk master h.region node).1) (Zem ++ (Zs ((Zad h).1))))⟩ : Signed), 0) from by unfold Zk5; rw [if_neg h1, if_neg h2]]
 exact Zo (v := .tuple #[Z6 (⟨h, node, (Zf6 kk ((Zbq kk master h.region node).1) (Zem ++ (Zs ((Zad h).1))))⟩ : Signed), Iv 0]) (by kernel_rfl) rfl rfl (by kernel_rfl) ⟨(Zeg (by kernel_rfl) rfl), rfl, trivial⟩
def Zf2 (kk : Nat → BitVec 32) (master : D) (s : Signed) : Int :=
  if ((Zad s.head).2) ≠ 0 then 70 else
  if 1 ≤ s.node then (if s.node ≤ 3 then (Zgc kk master s.head.region s.node (Zem ++ (Zs ((Zad s.head).1))) s.tag) else
  70) else
  70
theorem Zyk (kk : Nat → BitVec 32) (hG : G 0 = some (Zaa w32 64 kk)) (master : D) (s : Signed) : Zac Tryd.prog G 11 [dgV master, Z6 s] [] (Iv (Zf2 kk master s)) [] := by
 refine Zb8 (fn := Tryd.f11) (nt := 33) rfl rfl rfl rfl ?_
 refine Zah 3 (H' := [hole, hole, hole]) rfl ?_
 refine Ze (Zf ?_)
 refine Zdc (v := dgV master) (b := dgB master) (nid := 0) (H' := [dgB master, hole, hole]) rfl rfl rfl (by kernel_rfl) (by kernel_rfl) ?_
 refine Zdc (v := Z6 s) (b := bxB 69 (Zt s)) (nid := 1) (H' := [dgB master, bxB 69 (Zt s), hole]) rfl rfl rfl (by kernel_rfl) (by kernel_rfl) ?_
 refine Zc rfl rfl (Iv 0) rfl (Za (Zb (Ze (Zf ?_))))
 refine Zh (b := 1) (o := 0) (n := 0) (o' := 0) rfl rfl rfl rfl rfl ?_
 refine Zg (p := pt 1 0) (v := Zbp s.head) rfl rfl rfl (by kernel_rfl) ?_
 have hpe3 := Zl9 s.head
 have hpl3 := Zpt s.head
 refine Zab (e := []) (nid := 2) (Zvd (G := G) s.head) (vals := [Zbp s.head]) (v := .tuple #[slv 2 0 ((Zad s.head).1.length) ((Zad s.head).1.length), Iv ((Zad s.head).2)]) (H' := [dgB master, bxB 69 (Zt s), Zan ((Zad s.head).1)]) rfl rfl rfl rfl rfl rfl rfl ⟨⟨rfl, trivial⟩, trivial, rfl, rfl, rfl⟩ (by kernel_rfl) (by kernel_rfl) ?_
 refine Zd rfl rfl (.tuple #[slv 2 0 ((Zad s.head).1.length) ((Zad s.head).1.length), Iv ((Zad s.head).2)]) rfl (Z5 (vs := #[slv 2 0 ((Zad s.head).1.length) ((Zad s.head).1.length), Iv ((Zad s.head).2)]) (v := slv 2 0 ((Zad s.head).1.length) ((Zad s.head).1.length)) rfl rfl rfl rfl (Z5 (vs := #[slv 2 0 ((Zad s.head).1.length) ((Zad s.head).1.length), Iv ((Zad s.head).2)]) (v := Iv ((Zad s.head).2)) rfl rfl rfl rfl (Zc rfl rfl (slv 2 0 ((Zad s.head).1.length) ((Zad s.head).1.length)) rfl (Zc rfl rfl (Iv ((Zad s.head).2)) rfl (Za (Zb (Ze (Ze (Zf (Zd rfl rfl (Iv ((Zad s.head).2)) rfl ?_))))))))))
 by_cases h1 : ((Zad s.head).2) ≠ 0
 refine Zi (vx := Iv ((Zad s.head).2)) (vy := Iv 0) rfl rfl (.bool true) rfl rfl (Zke (by omega)) ?_
 refine Zd rfl rfl (.bool true) rfl (Zn rfl rfl (Zn rfl rfl (Zn rfl rfl (Zn rfl rfl (Zp rfl rfl (.bool true) rfl (Za (Zb (Zu rfl (Ze (Zf (Zc rfl rfl (Iv 70) rfl (Za (Zb (Zw (Zaj (Zy ?_))))))))))))))))
 rw [show Zf2 kk master s = 70 from by unfold Zf2; rw [if_pos h1]]
 exact Zo (v := Iv 70) rfl rfl rfl (by kernel_rfl) rfl
 refine Zi (vx := Iv ((Zad s.head).2)) (vy := Iv 0) rfl rfl (.bool false) rfl rfl (Zen (by omega)) ?_
 refine Zd rfl rfl (.bool false) rfl ?_
 refine Zh (b := 1) (o := 0) (n := 36) (o' := 36) rfl rfl rfl rfl rfl ?_
 refine Zg (p := pt 1 36) (v := Iv s.node) rfl rfl rfl (by kernel_rfl) ?_
 by_cases h2 : 1 ≤ s.node
 by_cases h3 : s.node ≤ 3
 refine Zv ((Zbs (G := G) s.node 1 3).res (congrArg Value.bool (Zgh (by omega) (by omega)))) (vals := [Iv s.node, Iv 1, Iv 3]) (res' := .bool true) rfl rfl rfl rfl rfl rfl ?_
 refine Zhl (vx := .bool true) rfl rfl (.bool false) rfl Zdu ?_
 refine Zp rfl rfl (.bool false) rfl (Za (Zb (Zr rfl (Z0 (Zb (Ze (Zf ?_)))))))
 refine Zg (p := pt 0 0) (v := dgV master) rfl rfl rfl (by kernel_rfl) ?_
 refine Zh (b := 1) (o := 0) (n := 0) (o' := 0) rfl rfl rfl rfl rfl ?_
 refine Zh (b := 1) (o := 0) (n := 0) (o' := 0) rfl rfl rfl rfl rfl ?_
 refine Zg (p := pt 1 0) (v := Iv s.head.region) rfl rfl rfl (by kernel_rfl) ?_
 refine Zh (b := 1) (o := 0) (n := 36) (o' := 36) rfl rfl rfl rfl rfl ?_
 refine Zg (p := pt 1 36) (v := Iv s.node) rfl rfl rfl (by kernel_rfl) ?_
 refine Zd rfl rfl (slv 2 0 ((Zad s.head).1.length) ((Zad s.head).1.length)) rfl ?_
 refine Zgy (p := slv 2 0 ((Zad s.head).1.length) ((Zad s.head).1.length)) (v := .string (Zs ((Zad s.head).1))) rfl rfl rfl (Zkx rfl rfl rfl rfl rfl (by omega)) ?_
 refine Zi (vx := .string Zem) (vy := .string (Zs ((Zad s.head).1))) rfl rfl (.string (Zem ++ (Zs ((Zad s.head).1)))) rfl rfl (Zkn (by simp only [ByteArray.size_append, Za3, Zhu, Zei, Zkt]; omega)) ?_
 refine Zh (b := 1) (o := 0) (n := 37) (o' := 37) rfl rfl rfl rfl rfl ?_
 refine Zg (p := pt 1 37) (v := dgV s.tag) rfl rfl rfl (by kernel_rfl) ?_
 refine Zv (Z0d (G := G) kk hG master s.head.region s.node (Zem ++ (Zs ((Zad s.head).1))) s.tag (by simp only [ByteArray.size_append, Za3, Zkt]; omega)) (vals := [dgV master, Iv s.head.region, Iv s.node, .string (Zem ++ (Zs ((Zad s.head).1))), dgV s.tag]) (res' := Iv (Zgc kk master s.head.region s.node (Zem ++ (Zs ((Zad s.head).1))) s.tag)) rfl rfl rfl rfl rfl rfl ?_
 refine Zc rfl rfl (Iv (Zgc kk master s.head.region s.node (Zem ++ (Zs ((Zad s.head).1))) s.tag)) rfl (Za (Zb (Zw (Zy ?_))))
 rw [show Zf2 kk master s = (Zgc kk master s.head.region s.node (Zem ++ (Zs ((Zad s.head).1))) s.tag) from by unfold Zf2; rw [if_neg h1, if_pos h2, if_pos h3]]
 exact Zo (v := Iv (Zgc kk master s.head.region s.node (Zem ++ (Zs ((Zad s.head).1))) s.tag)) rfl rfl rfl (by kernel_rfl) rfl
 refine Zv ((Zbs (G := G) s.node 1 3).res (congrArg Value.bool (Zc3 (by omega)))) (vals := [Iv s.node, Iv 1, Iv 3]) (res' := .bool false) rfl rfl rfl rfl rfl rfl ?_
 refine Zhl (vx := .bool false) rfl rfl (.bool true) rfl Zdu ?_
 refine Zp rfl rfl (.bool true) rfl (Za (Zb (Zu rfl (Ze (Zf (Zc rfl rfl (Iv 70) rfl (Za (Zb (Zw (Zaj (Zy ?_)))))))))))
 rw [show Zf2 kk master s = 70 from by unfold Zf2; rw [if_neg h1, if_pos h2, if_neg h3]]
 exact Zo (v := Iv 70) rfl rfl rfl (by kernel_rfl) rfl
 refine Zv ((Zbs (G := G) s.node 1 3).res (congrArg Value.bool (Zc3 (by omega)))) (vals := [Iv s.node, Iv 1, Iv 3]) (res' := .bool false) rfl rfl rfl rfl rfl rfl ?_
 refine Zhl (vx := .bool false) rfl rfl (.bool true) rfl Zdu ?_
 refine Zp rfl rfl (.bool true) rfl (Za (Zb (Zu rfl (Ze (Zf (Zc rfl rfl (Iv 70) rfl (Za (Zb (Zw (Zaj (Zy ?_)))))))))))
 rw [show Zf2 kk master s = 70 from by unfold Zf2; rw [if_neg h1, if_neg h2]]
 exact Zo (v := Iv 70) rfl rfl rfl (by kernel_rfl) rfl
theorem Zr5 (s : Signed) : Zac Tryd.prog G 9 [Z6 s] [] (.tuple #[slv 0 0 (Zk3 s).1.length (Zk3 s).1.length, Iv (Zk3 s).2]) [Zan (Zk3 s).1] := by
  refine Zb8 (fn := Tryd.f9) (nt := 32) rfl rfl rfl rfl ?_
  refine Zah 5 (H' := [hole, hole, hole, hole, hole]) rfl ?_
  refine Ze (Zf ?_)
  refine Zdc (v := Z6 s) (b := bxB 69 (Zt s)) (nid := 0) (H' := [bxB 69 (Zt s), hole, hole, hole, hole]) rfl rfl rfl (by kernel_rfl) (by kernel_rfl) ?_
  refine Zc rfl rfl (.slice none 0 0) rfl (Zc rfl rfl (Iv 0) rfl (Za (Zb (Ze (Zf ?_)))))
  refine Zh (b := 0) (o := 0) (n := 0) (o' := 0) rfl rfl rfl rfl rfl ?_
  refine Zg (p := pt 0 0) (v := Zbp s.head) rfl rfl rfl (by kernel_rfl) ?_
  have hpe6 := Zl9 s.head
  have hpl6 := Zpt s.head
  refine Zab (e := []) (nid := 1) (Zvd (G := G) s.head) (vals := [Zbp s.head]) (v := .tuple #[slv 1 0 ((Zad s.head).1.length) ((Zad s.head).1.length), Iv ((Zad s.head).2)]) (H' := [bxB 69 (Zt s), Zan ((Zad s.head).1), hole, hole, hole]) rfl rfl rfl rfl rfl rfl rfl ⟨⟨rfl, trivial⟩, trivial, rfl, rfl, rfl⟩ (by kernel_rfl) (by kernel_rfl) ?_
  refine Zd rfl rfl (.tuple #[slv 1 0 ((Zad s.head).1.length) ((Zad s.head).1.length), Iv ((Zad s.head).2)]) rfl (Z5 (vs := #[slv 1 0 ((Zad s.head).1.length) ((Zad s.head).1.length), Iv ((Zad s.head).2)]) (v := slv 1 0 ((Zad s.head).1.length) ((Zad s.head).1.length)) rfl rfl rfl rfl (Z5 (vs := #[slv 1 0 ((Zad s.head).1.length) ((Zad s.head).1.length), Iv ((Zad s.head).2)]) (v := Iv ((Zad s.head).2)) rfl rfl rfl rfl (Zc rfl rfl (slv 1 0 ((Zad s.head).1.length) ((Zad s.head).1.length)) rfl (Zc rfl rfl (Iv ((Zad s.head).2)) rfl (Za (Zb (Ze (Ze (Zf (Zd rfl rfl (Iv ((Zad s.head).2)) rfl ?_))))))))))
  by_cases h1 : ((Zad s.head).2) ≠ 0
  refine Zi (vx := Iv ((Zad s.head).2)) (vy := Iv 0) rfl rfl (.bool true) rfl rfl (Zke (by omega)) ?_
  refine Zd rfl rfl (.bool true) rfl (Zn rfl rfl (Zn rfl rfl (Zn rfl rfl (Zn rfl rfl (Zp rfl rfl (.bool true) rfl (Za (Zb (Zu rfl (Ze (Zf (Zc rfl rfl (.slice none 0 0) rfl (Zc rfl rfl (Iv 70) rfl (Za (Zb ?_))))))))))))))
  refine Zc8 (Zb2.nilTmp (i := 2) (b := 2) true 1 rfl (by decide) rfl) ?_
  refine Zw (Zaj (Zy ?_))
  rw [show Zk3 s = ([], 70) from if_neg (by omega)]
  exact Zdg [2] (v := .tuple #[slv 2 0 0 0, Iv 70]) rfl (by kernel_rfl) rfl rfl (by decide) (by simp [Za1, Zan]) ⟨⟨rfl, rfl, rfl, by first | omega | exact Nat.le_refl _ | exact Nat.zero_le _ | (dsimp only; omega), by first | omega | exact Nat.le_refl _ | exact Nat.zero_le _ | (dsimp only; omega)⟩, rfl, trivial⟩
  refine Zi (vx := Iv ((Zad s.head).2)) (vy := Iv 0) rfl rfl (.bool false) rfl rfl (Zen (by omega)) ?_
  refine Zd rfl rfl (.bool false) rfl ?_
  refine Zh (b := 0) (o := 0) (n := 36) (o' := 36) rfl rfl rfl rfl rfl ?_
  refine Zg (p := pt 0 36) (v := Iv s.node) rfl rfl rfl (by kernel_rfl) ?_
  by_cases h2 : 1 ≤ s.node
  by_cases h3 : s.node ≤ 3
  refine Zv ((Zbs (G := G) s.node 1 3).res (congrArg Value.bool (Zgh (by omega) (by omega)))) (vals := [Iv s.node, Iv 1, Iv 3]) (res' := .bool true) rfl rfl rfl rfl rfl rfl ?_
  refine Zhl (vx := .bool true) rfl rfl (.bool false) rfl Zdu ?_
  refine Zp rfl rfl (.bool false) rfl (Za (Zb (Zr rfl (Z0 (Zb (Ze (Zf ?_)))))))
  refine Zq (b := rfB (.slice none 0 0)) (nid := 2) (H' := [bxB 69 (Zt s), Zan ((Zad s.head).1), rfB (.slice none 0 0), hole, hole]) rfl rfl (by kernel_rfl) (by kernel_rfl) ?_
  refine Za (Zb (Ze ?_))
  refine Zc8 (Zb2.nilCell (k := 2) (j := 0) (b := 3) true 1 rfl (by decide) rfl (by show 0 < 1; decide) rfl rfl) ?_
  refine Zf (Zd rfl rfl (slv 1 0 ((Zad s.head).1.length) ((Zad s.head).1.length)) rfl ?_)
  refine Zgy (p := slv 1 0 ((Zad s.head).1.length) ((Zad s.head).1.length)) (v := .string (Zs ((Zad s.head).1))) rfl rfl rfl (Zkx rfl rfl rfl rfl rfl (by omega)) ?_
  refine Zev (e := [some (2, 0), some (3, 0)]) (nid := 0) (Zpz (G := G) [] 0 (Zs ((Zad s.head).1)) rfl (by omega)) (vals := [pt 2 0, .string (Zs ((Zad s.head).1))]) (v := .tuple #[]) (H' := [bxB 69 (Zt s), Zan ((Zad s.head).1), rfB (slv 3 0 1 1), txB ([] ++ [(Zs ((Zad s.head).1))]), hole]) rfl rfl rfl rfl rfl rfl ⟨⟨⟨rfl, rfl⟩, rfl, trivial⟩, ⟨(Zal rfl rfl rfl rfl), (Zal rfl rfl rfl rfl), trivial⟩, rfl, rfl, rfl, Nat.le_refl _⟩ (by kernel_rfl) rfl (by kernel_rfl) ?_
  refine Za (Zb (Ze (Zf ?_)))
  refine Zh (b := 0) (o := 0) (n := 36) (o' := 36) rfl rfl rfl rfl rfl ?_
  refine Zg (p := pt 0 36) (v := Iv s.node) rfl rfl rfl (by kernel_rfl) ?_
  refine Zev (e := [some (2, 0), some (3, 0)]) (nid := 0) (Zkg (G := G) ([] ++ [(Zs ((Zad s.head).1))]) 1 s.node rfl (by omega) (by omega) (by omega)) (vals := [pt 2 0, Iv s.node]) (v := .tuple #[]) (H' := [bxB 69 (Zt s), Zan ((Zad s.head).1), rfB (slv 3 0 2 2), txB (([] ++ [(Zs ((Zad s.head).1))]) ++ [(Zao s.node).1]), hole]) rfl rfl rfl rfl rfl rfl ⟨⟨⟨rfl, rfl⟩, rfl, trivial⟩, ⟨(Zal rfl rfl rfl rfl), (Zal rfl rfl rfl rfl), trivial⟩, rfl, rfl, rfl, Nat.le_refl _⟩ (by kernel_rfl) rfl (by kernel_rfl) ?_
  refine Za (Zb (Ze (Zf ?_)))
  refine Zh (b := 0) (o := 0) (n := 37) (o' := 37) rfl rfl rfl rfl rfl ?_
  refine Zci (p := pt 0 37) (vl := none) (vh := none) (v := slv 0 37 32 32) rfl rfl rfl rfl rfl rfl ?_
  refine Zgy (p := slv 0 37 32 32) (v := .string (Zs (dgL s.tag))) rfl rfl rfl (Zec (l := (dgL s.tag)) rfl rfl rfl rfl (of_decide_eq_true (by kernel_rfl)) (by kernel_rfl)) ?_
  refine Zev (e := [some (2, 0), some (3, 0)]) (nid := 0) (Zpz (G := G) (([] ++ [(Zs ((Zad s.head).1))]) ++ [(Zao s.node).1]) 2 (Zs (dgL s.tag)) rfl (by omega)) (vals := [pt 2 0, .string (Zs (dgL s.tag))]) (v := .tuple #[]) (H' := [bxB 69 (Zt s), Zan ((Zad s.head).1), rfB (slv 3 0 3 3), txB ((([] ++ [(Zs ((Zad s.head).1))]) ++ [(Zao s.node).1]) ++ [(Zs (dgL s.tag))]), hole]) rfl rfl rfl rfl rfl rfl ⟨⟨⟨rfl, rfl⟩, rfl, trivial⟩, ⟨(Zal rfl rfl rfl rfl), (Zal rfl rfl rfl rfl), trivial⟩, rfl, rfl, rfl, Nat.le_refl _⟩ (by kernel_rfl) rfl (by kernel_rfl) ?_
  refine Za (Zb (Ze (Zf ?_)))
  refine Zev (e := [some (2, 0), some (3, 0)]) (nid := 4) (Ztl (G := G) ((([] ++ [(Zs ((Zad s.head).1))]) ++ [(Zao s.node).1]) ++ [(Zs (dgL s.tag))]) 3 rfl (by omega)) (vals := [pt 2 0]) (v := slv 4 0 ((Zaf ((([] ++ [(Zs ((Zad s.head).1))]) ++ [(Zao s.node).1]) ++ [(Zs (dgL s.tag))])).length) ((Zaf ((([] ++ [(Zs ((Zad s.head).1))]) ++ [(Zao s.node).1]) ++ [(Zs (dgL s.tag))])).length)) (H' := [bxB 69 (Zt s), Zan ((Zad s.head).1), rfB (slv 3 0 3 3), txB ((([] ++ [(Zs ((Zad s.head).1))]) ++ [(Zao s.node).1]) ++ [(Zs (dgL s.tag))]), Zan (Zaf ((([] ++ [(Zs ((Zad s.head).1))]) ++ [(Zao s.node).1]) ++ [(Zs (dgL s.tag))]))]) rfl rfl rfl rfl rfl rfl ⟨⟨⟨rfl, rfl⟩, trivial⟩, ⟨(Zal rfl rfl rfl rfl), (Zal rfl rfl rfl rfl), trivial⟩, rfl, rfl, rfl, Nat.le_refl _⟩ rfl rfl (by kernel_rfl) ?_
  refine Zc rfl rfl (slv 4 0 ((Zaf ((([] ++ [(Zs ((Zad s.head).1))]) ++ [(Zao s.node).1]) ++ [(Zs (dgL s.tag))])).length) ((Zaf ((([] ++ [(Zs ((Zad s.head).1))]) ++ [(Zao s.node).1]) ++ [(Zs (dgL s.tag))])).length)) rfl ?_
  refine Zc rfl rfl (Iv 0) rfl (Za (Zb (Zw (Zy ?_))))
  rw [show Zk3 s = ((Zaf ((([] ++ [(Zs ((Zad s.head).1))]) ++ [(Zao s.node).1]) ++ [(Zs (dgL s.tag))])), 0) from if_pos (by omega)]
  exact Zdg [4] (v := .tuple #[slv 4 0 ((Zaf ((([] ++ [(Zs ((Zad s.head).1))]) ++ [(Zao s.node).1]) ++ [(Zs (dgL s.tag))])).length) ((Zaf ((([] ++ [(Zs ((Zad s.head).1))]) ++ [(Zao s.node).1]) ++ [(Zs (dgL s.tag))])).length), Iv 0]) rfl (by kernel_rfl) rfl rfl (by decide) (by simp [Za1, Zan]) ⟨⟨rfl, rfl, rfl, by first | omega | exact Nat.le_refl _ | exact Nat.zero_le _ | (dsimp only; omega), by first | omega | exact Nat.le_refl _ | exact Nat.zero_le _ | (dsimp only; omega)⟩, rfl, trivial⟩
  refine Zv ((Zbs (G := G) s.node 1 3).res (congrArg Value.bool (Zc3 (by omega)))) (vals := [Iv s.node, Iv 1, Iv 3]) (res' := .bool false) rfl rfl rfl rfl rfl rfl ?_
  refine Zhl (vx := .bool false) rfl rfl (.bool true) rfl Zdu ?_
  refine Zp rfl rfl (.bool true) rfl (Za (Zb (Zu rfl (Ze (Zf (Zc rfl rfl (.slice none 0 0) rfl (Zc rfl rfl (Iv 70) rfl (Za (Zb ?_)))))))))
  refine Zc8 (Zb2.nilTmp (i := 2) (b := 2) true 1 rfl (by decide) rfl) ?_
  refine Zw (Zaj (Zy ?_))
  rw [show Zk3 s = ([], 70) from if_neg (by omega)]
  exact Zdg [2] (v := .tuple #[slv 2 0 0 0, Iv 70]) rfl (by kernel_rfl) rfl rfl (by decide) (by simp [Za1, Zan]) ⟨⟨rfl, rfl, rfl, by first | omega | exact Nat.le_refl _ | exact Nat.zero_le _ | (dsimp only; omega), by first | omega | exact Nat.le_refl _ | exact Nat.zero_le _ | (dsimp only; omega)⟩, rfl, trivial⟩
  refine Zv ((Zbs (G := G) s.node 1 3).res (congrArg Value.bool (Zc3 (by omega)))) (vals := [Iv s.node, Iv 1, Iv 3]) (res' := .bool false) rfl rfl rfl rfl rfl rfl ?_
  refine Zhl (vx := .bool false) rfl rfl (.bool true) rfl Zdu ?_
  refine Zp rfl rfl (.bool true) rfl (Za (Zb (Zu rfl (Ze (Zf (Zc rfl rfl (.slice none 0 0) rfl (Zc rfl rfl (Iv 70) rfl (Za (Zb ?_)))))))))
  refine Zc8 (Zb2.nilTmp (i := 2) (b := 2) true 1 rfl (by decide) rfl) ?_
  refine Zw (Zaj (Zy ?_))
  rw [show Zk3 s = ([], 70) from if_neg (by omega)]
  exact Zdg [2] (v := .tuple #[slv 2 0 0 0, Iv 70]) rfl (by kernel_rfl) rfl rfl (by decide) (by simp [Za1, Zan]) ⟨⟨rfl, rfl, rfl, by first | omega | exact Nat.le_refl _ | exact Nat.zero_le _ | (dsimp only; omega), by first | omega | exact Nat.le_refl _ | exact Nat.zero_le _ | (dsimp only; omega)⟩, rfl, trivial⟩
end Go.Flat
namespace Go.Flat
open Go.Proofs
variable {G : Glob}
theorem Zmw (k : Int) (s : ByteArray) : (Zgo ⟨k, s⟩).length = s.size + 4 := Zlz _
def beL : Nat → Nat → Bs → Bs
  | 0, _, l => l
  | f + 1, n, l => if n = 0 then l else beL f (n / 256) (BitVec.ofInt 8 (n : Int) :: l)
theorem Ztj (f : Nat) (l : Bs) : beL f 0 l = l := by cases f <;> simp [beL]
theorem Zqn (b : D) (a : Nat) (x : BitVec 8) (h : a < 8) : (Zhm 8 (Ze9 b a x)).drop a = x :: (Zhm 8 b).drop (a + 1) := by
 apply List.ext_getElem?
 intro i
 cases i with
 | zero => simp [Zhm, Ze9, h]
 | succ i =>
  simp only [List.getElem?_drop, List.getElem?_cons_succ, Zhm, List.getElem?_map]
  by_cases hi : a + 1 + i < 8
  ·rw [show a + (i + 1) = a + 1 + i by omega, List.getElem?_range hi]
   simp only [Option.map_some, Ze9]
   rw [if_neg (by omega)]
  ·rw [show a + (i + 1) = a + 1 + i by omega, List.getElem?_eq_none (by simp; omega)]; rfl
theorem Zua : ∀ (a n : Nat) (b : D), a ≤ 8 → Zkf a n a b = beL a n ((Zhm 8 b).drop a)
 | 0, n, b, _ => by rw [Zkf, beL]
 | a + 1, n, b, h => by
  rw [Zkf, beL]
  split
  ·rfl
  ·rw [Nat.add_sub_cancel, Zua a _ _ (by omega), Zqn b a _ (by omega)]
theorem Z31 (m : Nat) : Zkf 8 m 8 dz = beL 8 m [] := by
 rw [Zua 8 m dz (by omega), List.drop_of_length_le (by rw [Zi1]; omega)]
def Zjr : Nat → List ByteArray → Bs
  | _, [] => []
  | k, x :: l => Zgo ⟨(k : Int) + 1, x⟩ ++ Zjr (k + 1) l
theorem Zzk {f : Field} {last : Int} (h1 : last < f.tag) (h2 : f.tag ≤ 255) (h3 : f.data.size ≤ 65536) : Zf7 f last = 0 := by
 unfold Zf7
 rw [if_neg (by omega), if_neg (by omega), if_neg (by omega)]
theorem Zrc : ∀ (ls : List ByteArray) (k : Nat) (acc : Bs), k + ls.length ≤ 255 → (∀ x, x ∈ ls → x.size ≤ 65536) → Zc6 (Zfr k ls) (k : Nat) acc = (acc ++ Zjr k ls, 0)
 | [], k, acc, _, _ => by simp [Zc6, Zfr, Zjr]
 | x :: l, k, acc, h, hs => by
  simp only [List.length_cons] at h
  rw [Zfr, Zc6, if_pos (Zzk (by dsimp only; omega) (by dsimp only; omega) (hs x (by simp))), Zjr]
  have := Zrc l (k + 1) (acc ++ Zgo ⟨(k : Int) + 1, x⟩) (by omega) (fun y hy => hs y (by simp [hy]))
  rw [show ((k + 1 : Nat) : Int) = (k : Int) + 1 by omega] at this
  rw [this, List.append_assoc]
theorem Z0v (ls : List ByteArray) (h : ls.length ≤ 255) (hs : ∀ x, x ∈ ls → x.size ≤ 65536) : Zaf ls = Zjr 0 ls := by
 have := Zrc ls 0 [] (by omega) hs
 unfold Zaf
 rw [show (0 : Int) = ((0 : Nat) : Int) from rfl, this, List.nil_append]
theorem Zy4 {ls : List ByteArray} {m : Nat} (hs : ∀ x, x ∈ ls → x.size ≤ m) (i : Nat) : (ls.getD i ⟨#[]⟩).size ≤ m := by
 rw [List.getD_eq_getElem?_getD]
 cases h : ls[i]? with
 | none => show 0 ≤ m; omega
 | some x => exact hs x (List.mem_of_getElem? h)
end Go.Flat
namespace Go.Flat
open Go.Proofs
variable {G : Glob}
theorem Z1d (h : Head) : ∀ x, x ∈ Zek h → x.size ≤ 65536 := by
 intro x hx
 have h1 := Zcs h.region
 have h2 := Zcs h.epoch
 have h3 := Zcs h.size
 have h4 := Zcs h.tick
 simp only [Zek, List.mem_cons, List.mem_nil_iff, or_false] at hx
 rcases hx with rfl | rfl | rfl | rfl | rfl
 all_goals first | omega | (rw [Za3, Zei]; omega)
theorem Zl8 {h : Head} (hr : Zex h) : Zad h = (Zaf (Zek h), 0) := by
 unfold Zad
 rw [if_pos (by rw [Zip, if_pos hr])]
theorem Zo0 (h : Head) : (Zaf (Zek h)).length ≤ 100 := by
 have := Zl3 (Zfr 0 (Zek h)) 0 []
 simp only [Zek, Zfr, Zwv, Za3, Zei, List.length_nil] at this
 have h1 := Zcs h.region
 have h2 := Zcs h.epoch
 have h3 := Zcs h.size
 have h4 := Zcs h.tick
 show (Zc6 (Zfr 0 (Zek h)) 0 []).1.length ≤ 100
 simp only [Zek, Zfr]
 omega
def Zaq (s : Signed) : List ByteArray := [Zs (Zaf (Zek s.head)), (Zao s.node).1, Zs (dgL s.tag)]
theorem Zwg (s : Signed) : ∀ x, x ∈ Zaq s → x.size ≤ 65536 := by
 intro x hx
 have h1 := Zcs s.node
 have h2 := Zo0 s.head
 simp only [Zaq, List.mem_cons, List.mem_nil_iff, or_false] at hx
 rcases hx with rfl | rfl | rfl
 all_goals first | omega | (rw [Za3]; omega) | (rw [Za3, Zei]; omega)
def Zt8 (s : Signed) : Prop := Zex s.head ∧ 1 ≤ s.node ∧ s.node ≤ 3
instance (s : Signed) : Decidable (Zt8 s) := inferInstanceAs (Decidable (_ ∧ _))
theorem Zzq {s : Signed} (h : Zt8 s) : Zk3 s = (Zaf (Zaq s), 0) := by
 unfold Zk3
 rw [if_pos ⟨by rw [Zip, if_pos h.1], h.2⟩, Zl8 h.1]
 try rfl
def Zbi (kk : Nat → BitVec 32) (master : D) (h : Head) (node : Int) : D := Zf6 kk (Zf6 kk master (Zs [75#8, BitVec.ofInt 8 h.region, BitVec.ofInt 8 node])) (Zem ++ Zs (Zaf (Zek h)))
def zeroS : Signed := ⟨⟨0, 0, 0, dz, 0⟩, 0, dz⟩
def Zuu (kk : Nat → BitVec 32) (master : D) (h : Head) (node : Int) : Signed × Int := if Zex h ∧ 1 ≤ node ∧ node ≤ 3 then (⟨h, node, Zbi kk master h node⟩, 0) else (zeroS, 70)
def Zmm (kk : Nat → BitVec 32) (master : D) (s : Signed) : Int := if Zt8 s then (if Zbm 32 (Zbi kk master s.head s.node) s.tag = true then 0 else 72) else 70
end Go.Flat
namespace Go.Flat
open Go.Proofs Go.ChangeShapes Go.WideShapes Go.RowKit
variable {G : Glob}
def Zid (a b : Head) : Bool := ((a.region == b.region) && ((a.epoch == b.epoch) && ((a.size == b.size) && ((Zbm 32 a.root b.root) && ((a.tick == b.tick) && true)))))
theorem Z3i (a b : Head) {d : Nat} : Z8 Tryd.prog (Op.equalIn (d + 3) 38 (Zbp a) (Zbp b)) = some (Zid a b) :=
 eqS (P := Tryd.prog) (d + 2) 38 _ (Zae a).toArray (Zae b).toArray (fun f => if f.offset = 0 then (a.region == b.region) else if f.offset = 1 then (a.epoch == b.epoch) else if f.offset = 2 then (a.size == b.size) else if f.offset = 3 then (Zbm 32 a.root b.root) else if f.offset = 35 then (a.tick == b.tick) else true) rfl (by kernel_rfl) (List.forall_mem_cons.2 ⟨⟨by decide, Iv a.region, Iv b.region, Zeb rfl rfl rfl, Zeb rfl rfl rfl, Zmv rfl⟩, List.forall_mem_cons.2 ⟨⟨by decide, Iv a.epoch, Iv b.epoch, Zeb rfl rfl rfl, Zeb rfl rfl rfl, Zmv rfl⟩, List.forall_mem_cons.2 ⟨⟨by decide, Iv a.size, Iv b.size, Zeb rfl rfl rfl, Zeb rfl rfl rfl, Zmv rfl⟩, List.forall_mem_cons.2 ⟨⟨by decide, .agg (Zaa w8 32 a.root).toArray, .agg (Zaa w8 32 b.root).toArray, Zge (n := 32) rfl rfl rfl rfl rfl, Zge (n := 32) rfl rfl rfl rfl rfl, Zlw rfl rfl rfl⟩, List.forall_mem_cons.2 ⟨⟨by decide, Iv a.tick, Iv b.tick, Zeb rfl rfl rfl, Zeb rfl rfl rfl, Zmv rfl⟩, fun _ h => absurd h (by simp)⟩⟩⟩⟩⟩)
theorem Ztt (a : Head) : Zid a a = true := by simp [Zid, Zbm]
def Zfu (a b : Signed) : Bool := ((Zid a.head b.head) && ((a.node == b.node) && ((Zbm 32 a.tag b.tag) && true)))
theorem Zy0 (a b : Signed) {d : Nat} : Z8 Tryd.prog (Op.equalIn (d + 4) 40 (Z6 a) (Z6 b)) = some (Zfu a b) :=
 eqS (P := Tryd.prog) (d + 3) 40 _ (Zt a).toArray (Zt b).toArray (fun f => if f.offset = 0 then (Zid a.head b.head) else if f.offset = 36 then (a.node == b.node) else if f.offset = 37 then (Zbm 32 a.tag b.tag) else true) rfl (by kernel_rfl) (List.forall_mem_cons.2 ⟨⟨by decide, Zbp a.head, Zbp b.head, Zge (n := 36) rfl rfl rfl rfl rfl, Zge (n := 36) rfl rfl rfl rfl rfl, Z3i a.head b.head⟩, List.forall_mem_cons.2 ⟨⟨by decide, Iv a.node, Iv b.node, Zeb rfl rfl rfl, Zeb rfl rfl rfl, Zmv rfl⟩, List.forall_mem_cons.2 ⟨⟨by decide, .agg (Zaa w8 32 a.tag).toArray, .agg (Zaa w8 32 b.tag).toArray, Zge (n := 32) rfl rfl rfl rfl rfl, Zge (n := 32) rfl rfl rfl rfl rfl, Zlw rfl rfl rfl⟩, fun _ h => absurd h (by simp)⟩⟩⟩)
theorem Zv6 {x y : Operand} (a b : Signed) : Zb0 Tryd.prog .neq 40 x y (Z6 a) (Z6 b) = some (.bool (!Zfu a b)) := Z3y (by kernel_rfl) (by kernel_rfl) (Zy0 a b (d := 9996))
theorem Zqj (a : Signed) : Zfu a a = true := by simp [Zfu, Zbm, Ztt]
def Z6x (a : Head) : Prop := (-9223372036854775808 ≤ a.region ∧ a.region ≤ 9223372036854775807) ∧ (-9223372036854775808 ≤ a.epoch ∧ a.epoch ≤ 9223372036854775807) ∧ (-9223372036854775808 ≤ a.size ∧ a.size ≤ 9223372036854775807) ∧ True ∧ (-9223372036854775808 ≤ a.tick ∧ a.tick ≤ 9223372036854775807) ∧ True
def Z7x (a : Signed) : Prop := Z6x a.head ∧ (-9223372036854775808 ≤ a.node ∧ a.node ≤ 9223372036854775807) ∧ True ∧ True
end Go.Flat
namespace Go.Flat
open Go.Proofs
variable {G : Glob}
theorem Zps {h : Head} (hr : ¬ Zex h) : (Zad h).2 ≠ 0 ∧ (Zad h).2 = 70 := by
 rw [Zl9, Zip, if_neg hr]; exact ⟨by decide, rfl⟩
theorem Zx1 {kk : Nat → BitVec 32} {master : D} {region node : Int} (h : (1 ≤ region ∧ region ≤ 5) ∧ (1 ≤ node ∧ node ≤ 3)) : Zbq kk master region node = (Zf6 kk master (Zs [75#8, BitVec.ofInt 8 region, BitVec.ofInt 8 node]), 0) := if_pos h
theorem Z1h {kk : Nat → BitVec 32} {master : D} {region node : Int} (h : ¬ ((1 ≤ region ∧ region ≤ 5) ∧ (1 ≤ node ∧ node ≤ 3))) : Zbq kk master region node = (dz, 50) := if_neg h
theorem Z2h (kk : Nat → BitVec 32) (master : D) (h : Head) (node : Int) : Zk5 kk master h node = Zuu kk master h node := by
 unfold Zk5 Zuu
 by_cases hr : Zex h
 ·rw [Zl8 hr]
  rw [if_neg (by simp)]
  by_cases hn : 1 ≤ node ∧ node ≤ 3
  ·rw [Zx1 ⟨hr.1, hn⟩, if_neg (by simp), if_pos ⟨hr, hn⟩]; rfl
  ·rw [Z1h (fun q => hn q.2), if_pos (by show (50 : Int) ≠ 0; decide), if_neg (fun q => hn q.2)]; rfl
 ·rw [if_pos (Zps hr).1, (Zps hr).2, if_neg (fun q => hr q.1)]; rfl
theorem Zwx (kk : Nat → BitVec 32) (master : D) (s : Signed) : Zf2 kk master s = Zmm kk master s := by
 unfold Zf2 Zmm
 by_cases hm : Zt8 s
 ·rw [if_pos hm, Zl8 hm.1]
  rw [if_neg (show ¬ ((Zaf (Zek s.head), (0 : Int)).2 ≠ 0) by simp), if_pos hm.2.1, if_pos hm.2.2]
  unfold Zgc
  rw [Zx1 ⟨hm.1.1, hm.2⟩]
  rw [if_neg (by simp)]; rfl
 ·rw [if_neg hm]
  by_cases hr : Zex s.head
  ·rw [Zl8 hr, if_neg (show ¬ ((Zaf (Zek s.head), (0 : Int)).2 ≠ 0) by simp)]
   split
   ·rw [if_neg (fun q => hm ⟨hr, by assumption, q⟩)]
   ·rfl
  ·rw [if_pos (Zps hr).1]
theorem Z0i (kk : Nat → BitVec 32) (hG : G 0 = some (Zaa w32 64 kk)) (master : D) (h : Head) (node : Int) : Zac Tryd.prog G 8 [dgV master, Zbp h, Iv node] [] (.tuple #[Z6 (Zuu kk master h node).1, Iv (Zuu kk master h node).2]) [] := Z2h kk master h node ▸ Z23 (G := G) kk hG master h node
theorem Zve (kk : Nat → BitVec 32) (hG : G 0 = some (Zaa w32 64 kk)) (master : D) (s : Signed) : Zac Tryd.prog G 11 [dgV master, Z6 s] [] (Iv (Zmm kk master s)) [] := Zwx kk master s ▸ Zyk (G := G) kk hG master s
def Z7y : Head := ⟨1, 1, 0, dz, 0⟩
def s1 (kk : Nat → BitVec 32) : Signed := ⟨Z7y, 1, Zbi kk dz Z7y 1⟩
end Go.Flat
