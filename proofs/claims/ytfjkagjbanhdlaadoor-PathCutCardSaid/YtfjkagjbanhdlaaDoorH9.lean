/- Walks. -/
import Derived.Test.YtfjkagjbanhdlaaDoorH5
import Derived.Test.YtfjkagjbanhdlaaDoorFlatG
set_option linter.unusedVariables false
set_option linter.unusedSimpArgs false
set_option maxRecDepth 20000
namespace Go.Flat
open Go.Proofs
variable {G : Glob}
def Zex : ByteArray := ⟨#[104, 101, 97, 100, 32]⟩
theorem Zk1 : Zex.size = 5 := rfl
theorem Zm7 (h : Head) : (Zad h).2 = Za7 h := by
 unfold Zad
 split
 ·rename_i h0; exact h0.symm
 ·rfl
def Zoc : List Field → Nat
  | [] => 0
  | f :: l => f.data.size + 4 + Zoc l
theorem Zhn : ∀ (fs : List Field) (last : Int) (acc : Bs), (Z4 fs last acc).1.length ≤ acc.length + Zoc fs
 | [], _, acc => by simp [Z4, Zoc]
 | f :: fs, last, acc => by
  rw [Z4]
  split
  ·have := Zhn fs f.tag (acc ++ Zje f)
   rw [List.length_append, Zps] at this
   simp only [Zoc]; omega
  ·simp
theorem Zut : ∀ (f n a : Nat) (b : D), (Zn2 f n a b).length ≤ 8
 | 0, n, a, b => by rw [Zn2, List.length_drop, Zkk]; omega
 | f + 1, n, a, b => by
  rw [Zn2]
  split
  ·rw [List.length_drop, Zkk]; omega
  ·exact Zut f _ _ _
theorem Zbh (n : Int) : (Zo n).1.size ≤ 8 := by
 unfold Zo
 split
 ·rw [Za6]; exact Zut _ _ _ _
 ·show 0 ≤ 8; omega
theorem Zqd (h : Head) : (Zad h).1.length ≤ 100 := by
 unfold Zad
 split
 ·have := Zhn (Zgt 0 (Zhj h)) 0 []
  simp only [Zhj, Zgt, Zoc, Za6, Zfw, List.length_nil] at this
  have h1 := Zbh h.region
  have h2 := Zbh h.epoch
  have h3 := Zbh h.size
  have h4 := Zbh h.tick
  show (Z4 (Zgt 0 (Zhj h)) 0 []).1.length ≤ 100
  simp only [Zhj, Zgt]
  omega
 ·simp
def Zaf (s : Signed) : Bs × Int := if Za7 s.head = 0 ∧ 1 ≤ s.node ∧ s.node ≤ 3 then (Zcm [Zk (Zad s.head).1, (Zo s.node).1, Zk (dgL s.tag)], 0) else ([], 70)
def Zlh (kk : Nat → BitVec 32) (master : D) (h : Head) (node : Int) : Signed × Int :=
  if ((Zad h).2) ≠ 0 then ((⟨(⟨0, 0, 0, dz, 0⟩ : Head), 0, dz⟩ : Signed), ((Zad h).2)) else
  if ((Zbr kk master h.region node).2) ≠ 0 then ((⟨(⟨0, 0, 0, dz, 0⟩ : Head), 0, dz⟩ : Signed), 70) else
  ((⟨h, node, (Zf4 kk ((Zbr kk master h.region node).1) (Zex ++ (Zk ((Zad h).1))))⟩ : Signed), 0)
abbrev Y3  : Blk := bxB 69 (Zh (⟨(⟨0, 0, 0, dz, 0⟩ : Head), 0, dz⟩ : Signed))
theorem Z3n (kk : Nat → BitVec 32) (hG : G 0 = some (Z6 w32 64 kk)) (master : D) (h : Head) (node : Int) : Z9 Tryd.prog G 9 [dgV master, Zb2 h, Iv node] [] (.tuple #[Zw (Zlh kk master h node).1, Iv (Zlh kk master h node).2]) [] := by
 refine Zbu (fn := Tryd.f9) (nt := 39) rfl rfl rfl rfl ?_
 refine Zaj 5 (H' := [hole, hole, hole, hole, hole]) rfl ?_
 refine Ze (Zf (Zci (v := dgV master) (b := dgB master) (nid := 0) (H' := [dgB master, hole, hole, hole, hole]) (Zci (v := Zb2 h) (b := bxB 36 (Zcq h)) (nid := 1) (H' := [dgB master, bxB 36 (Zcq h), hole, hole, hole]) (Zai (b := bxB 69 (Zh (⟨(⟨0, 0, 0, dz, 0⟩ : Head), 0, dz⟩ : Signed))) (nid := 2) (H' := [dgB master, bxB 36 (Zcq h), Y3, hole, hole]) (Zb (Iv 0) (Za (Zc (Ze (Zf (Zn (p := pt 1 0) (v := Zb2 h) ?_))))))))))
 have hpe4 := Zm7 h
 have hpl4 := Zqd h
 refine Zab (e := []) (nid := 3) (Zv1 (G := G) h) (vals := [Zb2 h]) (v := .tuple #[slv 3 0 ((Zad h).1.length) ((Zad h).1.length), Iv ((Zad h).2)]) (H' := [dgB master, bxB 36 (Zcq h), Y3, Zar ((Zad h).1), hole]) rfl rfl rfl rfl rfl rfl rfl ⟨⟨rfl, trivial⟩, trivial, rfl, rfl, rfl⟩ (by kernel_rfl) (by kernel_rfl) ?_
 refine Zd (.tuple #[slv 3 0 ((Zad h).1.length) ((Zad h).1.length), Iv ((Zad h).2)]) (Zq (vs := #[slv 3 0 ((Zad h).1.length) ((Zad h).1.length), Iv ((Zad h).2)]) (v := slv 3 0 ((Zad h).1.length) ((Zad h).1.length)) (Zq (vs := #[slv 3 0 ((Zad h).1.length) ((Zad h).1.length), Iv ((Zad h).2)]) (v := Iv ((Zad h).2)) (Zb (slv 3 0 ((Zad h).1.length) ((Zad h).1.length)) (Zb (Iv ((Zad h).2)) (Za (Zc (Ze (Ze (Zf (Zd (Iv ((Zad h).2)) ?_))))))))))
 by_cases h1 : ((Zad h).2) ≠ 0
 refine Zj (vx := Iv ((Zad h).2)) (vy := Iv 0) rfl rfl (.bool true) rfl rfl (Zek (by omega)) ?_
 refine Za (Zc (Zv rfl (Ze (Zf ?_))))
 refine Zbm (vs := []) (v := Zw (⟨(⟨0, 0, 0, dz, 0⟩ : Head), 0, dz⟩ : Signed)) rfl rfl rfl (by kernel_rfl) ?_
 refine Zd (Iv ((Zad h).2)) (Z2 (p := pt 2 0) (v := Zw (⟨(⟨0, 0, 0, dz, 0⟩ : Head), 0, dz⟩ : Signed)) (b := 2) (blk := bxB 69 (Zh (⟨(⟨0, 0, 0, dz, 0⟩ : Head), 0, dz⟩ : Signed))) (H' := [dgB master, bxB 36 (Zcq h), Y3, Zar ((Zad h).1), hole]) (Zb (Iv ((Zad h).2)) (Za (Zc (Zs (Zaa (Zu ?_)))))))
 rw [show Zlh kk master h node = ((⟨(⟨0, 0, 0, dz, 0⟩ : Head), 0, dz⟩ : Signed), ((Zad h).2)) from by unfold Zlh; rw [if_pos h1]]
 exact Zm (v := .tuple #[Zw (⟨(⟨0, 0, 0, dz, 0⟩ : Head), 0, dz⟩ : Signed), Iv ((Zad h).2)]) (by kernel_rfl) rfl rfl (by kernel_rfl) ⟨(Zhe (by kernel_rfl) rfl), rfl, trivial⟩
 refine Zj (vx := Iv ((Zad h).2)) (vy := Iv 0) rfl rfl (.bool false) rfl rfl (Zd6 (by omega)) ?_
 refine Za (Zc (Zt rfl (Z0 (Zc (Ze (Zf (Zn (p := pt 0 0) (v := dgV master) (Zi (b := 1) (o := 0) (n := 0) (o' := 0) (Zn (p := pt 1 0) (v := Iv h.region) (Zd (Iv node) ?_))))))))))
 refine Zp (Z0n (G := G) kk hG master h.region node) (vals := [dgV master, Iv h.region, Iv node]) (res' := .tuple #[dgV ((Zbr kk master h.region node).1), Iv ((Zbr kk master h.region node).2)]) rfl rfl rfl rfl rfl (by kernel_rfl) ?_
 refine Zd (.tuple #[dgV ((Zbr kk master h.region node).1), Iv ((Zbr kk master h.region node).2)]) (Zq (vs := #[dgV ((Zbr kk master h.region node).1), Iv ((Zbr kk master h.region node).2)]) (v := dgV ((Zbr kk master h.region node).1)) (Zq (vs := #[dgV ((Zbr kk master h.region node).1), Iv ((Zbr kk master h.region node).2)]) (v := Iv ((Zbr kk master h.region node).2)) (Zai (b := dgB dz) (nid := 4) (H' := [dgB master, bxB 36 (Zcq h), Y3, Zar ((Zad h).1), dgB dz]) (Z2 (p := pt 4 0) (v := dgV ((Zbr kk master h.region node).1)) (b := 4) (blk := dgB ((Zbr kk master h.region node).1)) (H' := [dgB master, bxB 36 (Zcq h), Y3, Zar ((Zad h).1), dgB ((Zbr kk master h.region node).1)]) (Zb (Iv ((Zbr kk master h.region node).2)) (Za (Zc (Ze (Ze (Zf (Zd (Iv ((Zbr kk master h.region node).2)) ?_)))))))))))
 by_cases h2 : ((Zbr kk master h.region node).2) ≠ 0
 refine Zj (vx := Iv ((Zbr kk master h.region node).2)) (vy := Iv 0) rfl rfl (.bool true) rfl rfl (Zek (by omega)) ?_
 refine Za (Zc (Zv rfl (Ze (Zf ?_))))
 refine Zbm (vs := []) (v := Zw (⟨(⟨0, 0, 0, dz, 0⟩ : Head), 0, dz⟩ : Signed)) rfl rfl rfl (by kernel_rfl) ?_
 refine Z2 (p := pt 2 0) (v := Zw (⟨(⟨0, 0, 0, dz, 0⟩ : Head), 0, dz⟩ : Signed)) (b := 2) (blk := bxB 69 (Zh (⟨(⟨0, 0, 0, dz, 0⟩ : Head), 0, dz⟩ : Signed))) (H' := [dgB master, bxB 36 (Zcq h), Y3, Zar ((Zad h).1), dgB ((Zbr kk master h.region node).1)]) (Zb (Iv 70) (Za (Zc (Zs (Zaa (Zu ?_))))))
 rw [show Zlh kk master h node = ((⟨(⟨0, 0, 0, dz, 0⟩ : Head), 0, dz⟩ : Signed), 70) from by unfold Zlh; rw [if_neg h1, if_pos h2]]
 exact Zm (v := .tuple #[Zw (⟨(⟨0, 0, 0, dz, 0⟩ : Head), 0, dz⟩ : Signed), Iv 70]) (by kernel_rfl) rfl rfl (by kernel_rfl) ⟨(Zhe (by kernel_rfl) rfl), rfl, trivial⟩
 refine Zj (vx := Iv ((Zbr kk master h.region node).2)) (vy := Iv 0) rfl rfl (.bool false) rfl rfl (Zd6 (by omega)) ?_
 refine Za (Zc (Zt rfl (Z0 (Zc (Ze ?_)))))
 refine Zku (by kernel_rfl) ?_
 refine Zn (p := pt 1 0) (v := Zb2 h) (Zd (Iv node) (Zn (p := pt 4 0) (v := dgV ((Zbr kk master h.region node).1)) (Zd (slv 3 0 ((Zad h).1.length) ((Zad h).1.length)) ?_)))
 refine Zfs (p := slv 3 0 ((Zad h).1.length) ((Zad h).1.length)) (v := .string (Zk ((Zad h).1))) rfl rfl rfl (Zft rfl rfl rfl rfl rfl (by omega)) ?_
 refine Zj (vx := .string Zex) (vy := .string (Zk ((Zad h).1))) rfl rfl (.string (Zex ++ (Zk ((Zad h).1)))) rfl rfl (Zks (by simp only [ByteArray.size_append, Za6, Zhz, Zfw, Zk1]; omega)) ?_
 refine Zp (Zvx (G := G) kk hG ((Zbr kk master h.region node).1) (Zex ++ (Zk ((Zad h).1))) (by simp only [ByteArray.size_append, Za6, Zk1]; omega)) (vals := [dgV ((Zbr kk master h.region node).1), .string (Zex ++ (Zk ((Zad h).1)))]) (res' := dgV (Zf4 kk ((Zbr kk master h.region node).1) (Zex ++ (Zk ((Zad h).1))))) rfl rfl rfl rfl rfl (by kernel_rfl) ?_
 refine Zbm (vs := [(0, Zb2 h), (1, Iv node), (2, dgV (Zf4 kk ((Zbr kk master h.region node).1) (Zex ++ (Zk ((Zad h).1)))))]) (v := Zw (⟨h, node, (Zf4 kk ((Zbr kk master h.region node).1) (Zex ++ (Zk ((Zad h).1))))⟩ : Signed)) rfl rfl rfl (by kernel_rfl) ?_
 refine Z2 (p := pt 2 0) (v := Zw (⟨h, node, (Zf4 kk ((Zbr kk master h.region node).1) (Zex ++ (Zk ((Zad h).1))))⟩ : Signed)) (b := 2) (blk := bxB 69 (Zh (⟨h, node, (Zf4 kk ((Zbr kk master h.region node).1) (Zex ++ (Zk ((Zad h).1))))⟩ : Signed))) (H' := [dgB master, bxB 36 (Zcq h), bxB 69 (Zh (⟨h, node, (Zf4 kk ((Zbr kk master h.region node).1) (Zex ++ (Zk ((Zad h).1))))⟩ : Signed)), Zar ((Zad h).1), dgB ((Zbr kk master h.region node).1)]) (Zb (Iv 0) ?_)
 refine Zjp (by kernel_rfl) ?_
 refine Zc (Zs (Zu ?_))
 rw [show Zlh kk master h node = ((⟨h, node, (Zf4 kk ((Zbr kk master h.region node).1) (Zex ++ (Zk ((Zad h).1))))⟩ : Signed), 0) from by unfold Zlh; rw [if_neg h1, if_neg h2]]
 exact Zm (v := .tuple #[Zw (⟨h, node, (Zf4 kk ((Zbr kk master h.region node).1) (Zex ++ (Zk ((Zad h).1))))⟩ : Signed), Iv 0]) (by kernel_rfl) rfl rfl (by kernel_rfl) ⟨(Zhe (by kernel_rfl) rfl), rfl, trivial⟩
def Zf2 (kk : Nat → BitVec 32) (master : D) (s : Signed) : Int :=
  if ((Zad s.head).2) ≠ 0 then 70 else
  if 1 ≤ s.node then (if s.node ≤ 3 then (Zf9 kk master s.head.region s.node (Zex ++ (Zk ((Zad s.head).1))) s.tag) else
  70) else
  70
theorem Zy5 (kk : Nat → BitVec 32) (hG : G 0 = some (Z6 w32 64 kk)) (master : D) (s : Signed) : Z9 Tryd.prog G 47 [dgV master, Zw s] [] (Iv (Zf2 kk master s)) [] := by
 refine Zbu (fn := Tryd.f47) (nt := 33) rfl rfl rfl rfl ?_
 refine Zaj 3 (H' := [hole, hole, hole]) rfl ?_
 refine Ze (Zf (Zci (v := dgV master) (b := dgB master) (nid := 0) (H' := [dgB master, hole, hole]) (Zci (v := Zw s) (b := bxB 69 (Zh s)) (nid := 1) (H' := [dgB master, bxB 69 (Zh s), hole]) (Zb (Iv 0) (Za (Zc (Ze (Zf (Zi (b := 1) (o := 0) (n := 0) (o' := 0) (Zn (p := pt 1 0) (v := Zb2 s.head) ?_))))))))))
 have hpe3 := Zm7 s.head
 have hpl3 := Zqd s.head
 refine Zab (e := []) (nid := 2) (Zv1 (G := G) s.head) (vals := [Zb2 s.head]) (v := .tuple #[slv 2 0 ((Zad s.head).1.length) ((Zad s.head).1.length), Iv ((Zad s.head).2)]) (H' := [dgB master, bxB 69 (Zh s), Zar ((Zad s.head).1)]) rfl rfl rfl rfl rfl rfl rfl ⟨⟨rfl, trivial⟩, trivial, rfl, rfl, rfl⟩ (by kernel_rfl) (by kernel_rfl) ?_
 refine Zd (.tuple #[slv 2 0 ((Zad s.head).1.length) ((Zad s.head).1.length), Iv ((Zad s.head).2)]) (Zq (vs := #[slv 2 0 ((Zad s.head).1.length) ((Zad s.head).1.length), Iv ((Zad s.head).2)]) (v := slv 2 0 ((Zad s.head).1.length) ((Zad s.head).1.length)) (Zq (vs := #[slv 2 0 ((Zad s.head).1.length) ((Zad s.head).1.length), Iv ((Zad s.head).2)]) (v := Iv ((Zad s.head).2)) (Zb (slv 2 0 ((Zad s.head).1.length) ((Zad s.head).1.length)) (Zb (Iv ((Zad s.head).2)) (Za (Zc (Ze (Ze (Zf (Zd (Iv ((Zad s.head).2)) ?_))))))))))
 by_cases h1 : ((Zad s.head).2) ≠ 0
 refine Zj (vx := Iv ((Zad s.head).2)) (vy := Iv 0) rfl rfl (.bool true) rfl rfl (Zek (by omega)) ?_
 refine Zd (.bool true) (Zg (Zg (Zg (Zg (Zl (.bool true) (Za (Zc (Zv rfl (Ze (Zf (Zb (Iv 70) (Za (Zc (Zs (Zaa (Zu ?_))))))))))))))))
 rw [show Zf2 kk master s = 70 from by unfold Zf2; rw [if_pos h1]]
 exact Zm (v := Iv 70) rfl rfl rfl (by kernel_rfl) rfl
 refine Zj (vx := Iv ((Zad s.head).2)) (vy := Iv 0) rfl rfl (.bool false) rfl rfl (Zd6 (by omega)) ?_
 refine Zd (.bool false) (Zi (b := 1) (o := 0) (n := 36) (o' := 36) (Zn (p := pt 1 36) (v := Iv s.node) ?_))
 by_cases h2 : 1 ≤ s.node
 by_cases h3 : s.node ≤ 3
 refine Zp ((Zb9 (G := G) s.node 1 3).res (congrArg Value.bool (Zb8 (by omega) (by omega)))) (vals := [Iv s.node, Iv 1, Iv 3]) (res' := .bool true) rfl rfl rfl rfl rfl rfl ?_
 refine Zi1 (vx := .bool true) rfl rfl (.bool false) rfl Zeu ?_
 refine Zl (.bool false) (Za (Zc (Zt rfl (Z0 (Zc (Ze (Zf (Zn (p := pt 0 0) (v := dgV master) (Zi (b := 1) (o := 0) (n := 0) (o' := 0) (Zi (b := 1) (o := 0) (n := 0) (o' := 0) (Zn (p := pt 1 0) (v := Iv s.head.region) (Zi (b := 1) (o := 0) (n := 36) (o' := 36) (Zn (p := pt 1 36) (v := Iv s.node) (Zd (slv 2 0 ((Zad s.head).1.length) ((Zad s.head).1.length)) ?_))))))))))))))
 refine Zfs (p := slv 2 0 ((Zad s.head).1.length) ((Zad s.head).1.length)) (v := .string (Zk ((Zad s.head).1))) rfl rfl rfl (Zft rfl rfl rfl rfl rfl (by omega)) ?_
 refine Zj (vx := .string Zex) (vy := .string (Zk ((Zad s.head).1))) rfl rfl (.string (Zex ++ (Zk ((Zad s.head).1)))) rfl rfl (Zks (by simp only [ByteArray.size_append, Za6, Zhz, Zfw, Zk1]; omega)) ?_
 refine Zi (b := 1) (o := 0) (n := 37) (o' := 37) (Zn (p := pt 1 37) (v := dgV s.tag) ?_)
 refine Zp (Z0l (G := G) kk hG master s.head.region s.node (Zex ++ (Zk ((Zad s.head).1))) s.tag (by simp only [ByteArray.size_append, Za6, Zk1]; omega)) (vals := [dgV master, Iv s.head.region, Iv s.node, .string (Zex ++ (Zk ((Zad s.head).1))), dgV s.tag]) (res' := Iv (Zf9 kk master s.head.region s.node (Zex ++ (Zk ((Zad s.head).1))) s.tag)) rfl rfl rfl rfl rfl rfl ?_
 refine Zb (Iv (Zf9 kk master s.head.region s.node (Zex ++ (Zk ((Zad s.head).1))) s.tag)) (Za (Zc (Zs (Zu ?_))))
 rw [show Zf2 kk master s = (Zf9 kk master s.head.region s.node (Zex ++ (Zk ((Zad s.head).1))) s.tag) from by unfold Zf2; rw [if_neg h1, if_pos h2, if_pos h3]]
 exact Zm (v := Iv (Zf9 kk master s.head.region s.node (Zex ++ (Zk ((Zad s.head).1))) s.tag)) rfl rfl rfl (by kernel_rfl) rfl
 refine Zp ((Zb9 (G := G) s.node 1 3).res (congrArg Value.bool (Zao (by omega)))) (vals := [Iv s.node, Iv 1, Iv 3]) (res' := .bool false) rfl rfl rfl rfl rfl rfl ?_
 refine Zi1 (vx := .bool false) rfl rfl (.bool true) rfl Zeu ?_
 refine Zl (.bool true) (Za (Zc (Zv rfl (Ze (Zf (Zb (Iv 70) (Za (Zc (Zs (Zaa (Zu ?_)))))))))))
 rw [show Zf2 kk master s = 70 from by unfold Zf2; rw [if_neg h1, if_pos h2, if_neg h3]]
 exact Zm (v := Iv 70) rfl rfl rfl (by kernel_rfl) rfl
 refine Zp ((Zb9 (G := G) s.node 1 3).res (congrArg Value.bool (Zao (by omega)))) (vals := [Iv s.node, Iv 1, Iv 3]) (res' := .bool false) rfl rfl rfl rfl rfl rfl ?_
 refine Zi1 (vx := .bool false) rfl rfl (.bool true) rfl Zeu ?_
 refine Zl (.bool true) (Za (Zc (Zv rfl (Ze (Zf (Zb (Iv 70) (Za (Zc (Zs (Zaa (Zu ?_)))))))))))
 rw [show Zf2 kk master s = 70 from by unfold Zf2; rw [if_neg h1, if_neg h2]]
 exact Zm (v := Iv 70) rfl rfl rfl (by kernel_rfl) rfl
theorem Zl4 (s : Signed) : Z9 Tryd.prog G 27 [Zw s] [] (.tuple #[slv 0 0 (Zaf s).1.length (Zaf s).1.length, Iv (Zaf s).2]) [Zar (Zaf s).1] := by
  refine Zbu (fn := Tryd.f27) (nt := 32) rfl rfl rfl rfl ?_
  refine Zaj 5 (H' := [hole, hole, hole, hole, hole]) rfl ?_
  refine Ze (Zf (Zci (v := Zw s) (b := bxB 69 (Zh s)) (nid := 0) (H' := [bxB 69 (Zh s), hole, hole, hole, hole]) (Zb (.slice none 0 0) (Zb (Iv 0) (Za (Zc (Ze (Zf (Zi (b := 0) (o := 0) (n := 0) (o' := 0) (Zn (p := pt 0 0) (v := Zb2 s.head) ?_))))))))))
  have hpe6 := Zm7 s.head
  have hpl6 := Zqd s.head
  refine Zab (e := []) (nid := 1) (Zv1 (G := G) s.head) (vals := [Zb2 s.head]) (v := .tuple #[slv 1 0 ((Zad s.head).1.length) ((Zad s.head).1.length), Iv ((Zad s.head).2)]) (H' := [bxB 69 (Zh s), Zar ((Zad s.head).1), hole, hole, hole]) rfl rfl rfl rfl rfl rfl rfl ⟨⟨rfl, trivial⟩, trivial, rfl, rfl, rfl⟩ (by kernel_rfl) (by kernel_rfl) ?_
  refine Zd (.tuple #[slv 1 0 ((Zad s.head).1.length) ((Zad s.head).1.length), Iv ((Zad s.head).2)]) (Zq (vs := #[slv 1 0 ((Zad s.head).1.length) ((Zad s.head).1.length), Iv ((Zad s.head).2)]) (v := slv 1 0 ((Zad s.head).1.length) ((Zad s.head).1.length)) (Zq (vs := #[slv 1 0 ((Zad s.head).1.length) ((Zad s.head).1.length), Iv ((Zad s.head).2)]) (v := Iv ((Zad s.head).2)) (Zb (slv 1 0 ((Zad s.head).1.length) ((Zad s.head).1.length)) (Zb (Iv ((Zad s.head).2)) (Za (Zc (Ze (Ze (Zf (Zd (Iv ((Zad s.head).2)) ?_))))))))))
  by_cases h1 : ((Zad s.head).2) ≠ 0
  refine Zj (vx := Iv ((Zad s.head).2)) (vy := Iv 0) rfl rfl (.bool true) rfl rfl (Zek (by omega)) ?_
  refine Zd (.bool true) (Zg (Zg (Zg (Zg (Zl (.bool true) (Za (Zc (Zv rfl (Ze (Zf (Zb (.slice none 0 0) (Zb (Iv 70) (Za (Zc ?_))))))))))))))
  refine Zb5 (Zbo.nilTmp (i := 2) (b := 2) true 1 rfl (by decide) rfl) ?_
  refine Zs (Zaa (Zu ?_))
  rw [show Zaf s = ([], 70) from if_neg (by omega)]
  exact Zbb [2] (v := .tuple #[slv 2 0 0 0, Iv 70]) rfl (by kernel_rfl) rfl rfl (by decide) (by simp [Zbe, Zar]) ⟨⟨rfl, rfl, rfl, by first | omega | exact Nat.le_refl _ | exact Nat.zero_le _ | (dsimp only; omega), by first | omega | exact Nat.le_refl _ | exact Nat.zero_le _ | (dsimp only; omega)⟩, rfl, trivial⟩
  refine Zj (vx := Iv ((Zad s.head).2)) (vy := Iv 0) rfl rfl (.bool false) rfl rfl (Zd6 (by omega)) ?_
  refine Zd (.bool false) (Zi (b := 0) (o := 0) (n := 36) (o' := 36) (Zn (p := pt 0 36) (v := Iv s.node) ?_))
  by_cases h2 : 1 ≤ s.node
  by_cases h3 : s.node ≤ 3
  refine Zp ((Zb9 (G := G) s.node 1 3).res (congrArg Value.bool (Zb8 (by omega) (by omega)))) (vals := [Iv s.node, Iv 1, Iv 3]) (res' := .bool true) rfl rfl rfl rfl rfl rfl ?_
  refine Zi1 (vx := .bool true) rfl rfl (.bool false) rfl Zeu ?_
  refine Zl (.bool false) (Za (Zc (Zt rfl (Z0 (Zc (Ze (Zf (Zai (b := rfB (.slice none 0 0)) (nid := 2) (H' := [bxB 69 (Zh s), Zar ((Zad s.head).1), rfB (.slice none 0 0), hole, hole]) (Za (Zc (Ze ?_)))))))))))
  refine Zb5 (Zbo.nilCell (k := 2) (j := 0) (b := 3) true 1 rfl (by decide) rfl (by show 0 < 1; decide) rfl rfl) ?_
  refine Zf (Zd (slv 1 0 ((Zad s.head).1.length) ((Zad s.head).1.length)) ?_)
  refine Zfs (p := slv 1 0 ((Zad s.head).1.length) ((Zad s.head).1.length)) (v := .string (Zk ((Zad s.head).1))) rfl rfl rfl (Zft rfl rfl rfl rfl rfl (by omega)) ?_
  refine Zc2 (e := [some (2, 0), some (3, 0)]) (nid := 0) (Zqj (G := G) [] 0 (Zk ((Zad s.head).1)) rfl (by omega)) (vals := [pt 2 0, .string (Zk ((Zad s.head).1))]) (v := .tuple #[]) (H' := [bxB 69 (Zh s), Zar ((Zad s.head).1), rfB (slv 3 0 1 1), txB ([] ++ [(Zk ((Zad s.head).1))]), hole]) rfl rfl rfl rfl rfl rfl ⟨⟨⟨rfl, rfl⟩, rfl, trivial⟩, ⟨(Zaw rfl rfl rfl rfl), (Zaw rfl rfl rfl rfl), trivial⟩, rfl, rfl, rfl, Nat.le_refl _⟩ (by kernel_rfl) rfl (by kernel_rfl) ?_
  refine Za (Zc (Ze (Zf (Zi (b := 0) (o := 0) (n := 36) (o' := 36) (Zn (p := pt 0 36) (v := Iv s.node) ?_)))))
  refine Zc2 (e := [some (2, 0), some (3, 0)]) (nid := 0) (Zkl (G := G) ([] ++ [(Zk ((Zad s.head).1))]) 1 s.node rfl (by omega) (by omega) (by omega)) (vals := [pt 2 0, Iv s.node]) (v := .tuple #[]) (H' := [bxB 69 (Zh s), Zar ((Zad s.head).1), rfB (slv 3 0 2 2), txB (([] ++ [(Zk ((Zad s.head).1))]) ++ [(Zo s.node).1]), hole]) rfl rfl rfl rfl rfl rfl ⟨⟨⟨rfl, rfl⟩, rfl, trivial⟩, ⟨(Zaw rfl rfl rfl rfl), (Zaw rfl rfl rfl rfl), trivial⟩, rfl, rfl, rfl, Nat.le_refl _⟩ (by kernel_rfl) rfl (by kernel_rfl) ?_
  refine Za (Zc (Ze (Zf (Zi (b := 0) (o := 0) (n := 37) (o' := 37) ?_))))
  refine Zda (p := pt 0 37) (vl := none) (vh := none) (v := slv 0 37 32 32) rfl rfl rfl rfl rfl rfl ?_
  refine Zfs (p := slv 0 37 32 32) (v := .string (Zk (dgL s.tag))) rfl rfl rfl (Zd9 (l := (dgL s.tag)) rfl rfl rfl rfl (of_decide_eq_true (by kernel_rfl)) (by kernel_rfl)) ?_
  refine Zc2 (e := [some (2, 0), some (3, 0)]) (nid := 0) (Zqj (G := G) (([] ++ [(Zk ((Zad s.head).1))]) ++ [(Zo s.node).1]) 2 (Zk (dgL s.tag)) rfl (by omega)) (vals := [pt 2 0, .string (Zk (dgL s.tag))]) (v := .tuple #[]) (H' := [bxB 69 (Zh s), Zar ((Zad s.head).1), rfB (slv 3 0 3 3), txB ((([] ++ [(Zk ((Zad s.head).1))]) ++ [(Zo s.node).1]) ++ [(Zk (dgL s.tag))]), hole]) rfl rfl rfl rfl rfl rfl ⟨⟨⟨rfl, rfl⟩, rfl, trivial⟩, ⟨(Zaw rfl rfl rfl rfl), (Zaw rfl rfl rfl rfl), trivial⟩, rfl, rfl, rfl, Nat.le_refl _⟩ (by kernel_rfl) rfl (by kernel_rfl) ?_
  refine Za (Zc (Ze (Zf ?_)))
  refine Zc2 (e := [some (2, 0), some (3, 0)]) (nid := 4) (Zts (G := G) ((([] ++ [(Zk ((Zad s.head).1))]) ++ [(Zo s.node).1]) ++ [(Zk (dgL s.tag))]) 3 rfl (by omega)) (vals := [pt 2 0]) (v := slv 4 0 ((Zcm ((([] ++ [(Zk ((Zad s.head).1))]) ++ [(Zo s.node).1]) ++ [(Zk (dgL s.tag))])).length) ((Zcm ((([] ++ [(Zk ((Zad s.head).1))]) ++ [(Zo s.node).1]) ++ [(Zk (dgL s.tag))])).length)) (H' := [bxB 69 (Zh s), Zar ((Zad s.head).1), rfB (slv 3 0 3 3), txB ((([] ++ [(Zk ((Zad s.head).1))]) ++ [(Zo s.node).1]) ++ [(Zk (dgL s.tag))]), Zar (Zcm ((([] ++ [(Zk ((Zad s.head).1))]) ++ [(Zo s.node).1]) ++ [(Zk (dgL s.tag))]))]) rfl rfl rfl rfl rfl rfl ⟨⟨⟨rfl, rfl⟩, trivial⟩, ⟨(Zaw rfl rfl rfl rfl), (Zaw rfl rfl rfl rfl), trivial⟩, rfl, rfl, rfl, Nat.le_refl _⟩ rfl rfl (by kernel_rfl) ?_
  refine Zb (slv 4 0 ((Zcm ((([] ++ [(Zk ((Zad s.head).1))]) ++ [(Zo s.node).1]) ++ [(Zk (dgL s.tag))])).length) ((Zcm ((([] ++ [(Zk ((Zad s.head).1))]) ++ [(Zo s.node).1]) ++ [(Zk (dgL s.tag))])).length)) ?_
  refine Zb (Iv 0) (Za (Zc (Zs (Zu ?_))))
  rw [show Zaf s = ((Zcm ((([] ++ [(Zk ((Zad s.head).1))]) ++ [(Zo s.node).1]) ++ [(Zk (dgL s.tag))])), 0) from if_pos (by omega)]
  exact Zbb [4] (v := .tuple #[slv 4 0 ((Zcm ((([] ++ [(Zk ((Zad s.head).1))]) ++ [(Zo s.node).1]) ++ [(Zk (dgL s.tag))])).length) ((Zcm ((([] ++ [(Zk ((Zad s.head).1))]) ++ [(Zo s.node).1]) ++ [(Zk (dgL s.tag))])).length), Iv 0]) rfl (by kernel_rfl) rfl rfl (by decide) (by simp [Zbe, Zar]) ⟨⟨rfl, rfl, rfl, by first | omega | exact Nat.le_refl _ | exact Nat.zero_le _ | (dsimp only; omega), by first | omega | exact Nat.le_refl _ | exact Nat.zero_le _ | (dsimp only; omega)⟩, rfl, trivial⟩
  refine Zp ((Zb9 (G := G) s.node 1 3).res (congrArg Value.bool (Zao (by omega)))) (vals := [Iv s.node, Iv 1, Iv 3]) (res' := .bool false) rfl rfl rfl rfl rfl rfl ?_
  refine Zi1 (vx := .bool false) rfl rfl (.bool true) rfl Zeu ?_
  refine Zl (.bool true) (Za (Zc (Zv rfl (Ze (Zf (Zb (.slice none 0 0) (Zb (Iv 70) (Za (Zc ?_)))))))))
  refine Zb5 (Zbo.nilTmp (i := 2) (b := 2) true 1 rfl (by decide) rfl) ?_
  refine Zs (Zaa (Zu ?_))
  rw [show Zaf s = ([], 70) from if_neg (by omega)]
  exact Zbb [2] (v := .tuple #[slv 2 0 0 0, Iv 70]) rfl (by kernel_rfl) rfl rfl (by decide) (by simp [Zbe, Zar]) ⟨⟨rfl, rfl, rfl, by first | omega | exact Nat.le_refl _ | exact Nat.zero_le _ | (dsimp only; omega), by first | omega | exact Nat.le_refl _ | exact Nat.zero_le _ | (dsimp only; omega)⟩, rfl, trivial⟩
  refine Zp ((Zb9 (G := G) s.node 1 3).res (congrArg Value.bool (Zao (by omega)))) (vals := [Iv s.node, Iv 1, Iv 3]) (res' := .bool false) rfl rfl rfl rfl rfl rfl ?_
  refine Zi1 (vx := .bool false) rfl rfl (.bool true) rfl Zeu ?_
  refine Zl (.bool true) (Za (Zc (Zv rfl (Ze (Zf (Zb (.slice none 0 0) (Zb (Iv 70) (Za (Zc ?_)))))))))
  refine Zb5 (Zbo.nilTmp (i := 2) (b := 2) true 1 rfl (by decide) rfl) ?_
  refine Zs (Zaa (Zu ?_))
  rw [show Zaf s = ([], 70) from if_neg (by omega)]
  exact Zbb [2] (v := .tuple #[slv 2 0 0 0, Iv 70]) rfl (by kernel_rfl) rfl rfl (by decide) (by simp [Zbe, Zar]) ⟨⟨rfl, rfl, rfl, by first | omega | exact Nat.le_refl _ | exact Nat.zero_le _ | (dsimp only; omega), by first | omega | exact Nat.le_refl _ | exact Nat.zero_le _ | (dsimp only; omega)⟩, rfl, trivial⟩
end Go.Flat
namespace Go.Flat
open Go.Proofs
variable {G : Glob}
def beL : Nat → Nat → Bs → Bs
  | 0, _, l => l
  | f + 1, n, l => if n = 0 then l else beL f (n / 256) (BitVec.ofInt 8 (n : Int) :: l)
def Z4w : Nat → List ByteArray → Bs
  | _, [] => []
  | k, x :: l => Zje ⟨(k : Int) + 1, x⟩ ++ Z4w (k + 1) l
theorem Zzr {f : Field} {last : Int} (h1 : last < f.tag) (h2 : f.tag ≤ 255) (h3 : f.data.size ≤ 65536) : Zfi f last = 0 := by
 unfold Zfi
 rw [if_neg (by omega), if_neg (by omega), if_neg (by omega)]
theorem Zn0 : ∀ (ls : List ByteArray) (k : Nat) (acc : Bs), k + ls.length ≤ 255 → (∀ x, x ∈ ls → x.size ≤ 65536) → Z4 (Zgt k ls) (k : Nat) acc = (acc ++ Z4w k ls, 0)
 | [], k, acc, _, _ => by simp [Z4, Zgt, Z4w]
 | x :: l, k, acc, h, hs => by
  simp only [List.length_cons] at h
  rw [Zgt, Z4, if_pos (Zzr (by dsimp only; omega) (by dsimp only; omega) (hs x (by simp))), Z4w]
  have := Zn0 l (k + 1) (acc ++ Zje ⟨(k : Int) + 1, x⟩) (by omega) (fun y hy => hs y (by simp [hy]))
  rw [show ((k + 1 : Nat) : Int) = (k : Int) + 1 by omega] at this
  rw [this, List.append_assoc]
end Go.Flat
namespace Go.Flat
open Go.Proofs
variable {G : Glob}
theorem Zm6 {h : Head} (hr : Zgd h) : Zad h = (Zcm (Zhj h), 0) := by
 unfold Zad
 rw [if_pos (by rw [Zf7, if_pos hr])]
theorem Zwd (h : Head) : (Zcm (Zhj h)).length ≤ 100 := by
 have := Zhn (Zgt 0 (Zhj h)) 0 []
 simp only [Zhj, Zgt, Zoc, Za6, Zfw, List.length_nil] at this
 have h1 := Zbh h.region
 have h2 := Zbh h.epoch
 have h3 := Zbh h.size
 have h4 := Zbh h.tick
 show (Z4 (Zgt 0 (Zhj h)) 0 []).1.length ≤ 100
 simp only [Zhj, Zgt]
 omega
def Znb (s : Signed) : List ByteArray := [Zk (Zcm (Zhj s.head)), (Zo s.node).1, Zk (dgL s.tag)]
def Zkd (s : Signed) : Prop := Zgd s.head ∧ 1 ≤ s.node ∧ s.node ≤ 3
instance (s : Signed) : Decidable (Zkd s) := inferInstanceAs (Decidable (_ ∧ _))
theorem Zrv {s : Signed} (h : Zkd s) : Zaf s = (Zcm (Znb s), 0) := by
 unfold Zaf
 rw [if_pos ⟨by rw [Zf7, if_pos h.1], h.2⟩, Zm6 h.1]
 try rfl
theorem Zru {s : Signed} (h : ¬ Zkd s) : Zaf s = ([], 70) := by
 unfold Zaf
 rw [if_neg]
 rintro ⟨h1, h2⟩
 refine h ⟨?_, h2⟩
 rw [Zf7] at h1
 split at h1
 ·assumption
 ·omega
def Z0e (kk : Nat → BitVec 32) (master : D) (h : Head) (node : Int) : D := Zf4 kk (Zf4 kk master (Zk [75#8, BitVec.ofInt 8 h.region, BitVec.ofInt 8 node])) (Zex ++ Zk (Zcm (Zhj h)))
def Z5r : Signed := ⟨⟨0, 0, 0, dz, 0⟩, 0, dz⟩
def Zb3 (kk : Nat → BitVec 32) (master : D) (h : Head) (node : Int) : Signed × Int := if Zgd h ∧ 1 ≤ node ∧ node ≤ 3 then (⟨h, node, Z0e kk master h node⟩, 0) else (Z5r, 70)
def Zcd (kk : Nat → BitVec 32) (master : D) (s : Signed) : Int := if Zkd s then (if Zcg 32 (Z0e kk master s.head s.node) s.tag = true then 0 else 72) else 70
end Go.Flat
namespace Go.Flat
open Go.Proofs Go.ChangeShapes Go.WideShapes Go.RowKit
variable {G : Glob}
def Zj7 (a b : Head) : Bool := ((a.region == b.region) && ((a.epoch == b.epoch) && ((a.size == b.size) && ((Zcg 32 a.root b.root) && ((a.tick == b.tick) && true)))))
theorem Z33 (a b : Head) {d : Nat} : Z3 Tryd.prog (Op.equalIn (d + 3) 28 (Zb2 a) (Zb2 b)) = some (Zj7 a b) :=
 eqS (P := Tryd.prog) (d + 2) 28 _ (Zcq a).toArray (Zcq b).toArray (fun f => if f.offset = 0 then (a.region == b.region) else if f.offset = 1 then (a.epoch == b.epoch) else if f.offset = 2 then (a.size == b.size) else if f.offset = 3 then (Zcg 32 a.root b.root) else if f.offset = 35 then (a.tick == b.tick) else true) rfl (by kernel_rfl) (List.forall_mem_cons.2 ⟨⟨by decide, Iv a.region, Iv b.region, Zbc rfl rfl rfl, Zbc rfl rfl rfl, Zfx rfl⟩, List.forall_mem_cons.2 ⟨⟨by decide, Iv a.epoch, Iv b.epoch, Zbc rfl rfl rfl, Zbc rfl rfl rfl, Zfx rfl⟩, List.forall_mem_cons.2 ⟨⟨by decide, Iv a.size, Iv b.size, Zbc rfl rfl rfl, Zbc rfl rfl rfl, Zfx rfl⟩, List.forall_mem_cons.2 ⟨⟨by decide, .agg (Z6 w8 32 a.root).toArray, .agg (Z6 w8 32 b.root).toArray, Zcr (n := 32) rfl rfl rfl rfl rfl, Zcr (n := 32) rfl rfl rfl rfl rfl, Zme rfl rfl rfl⟩, List.forall_mem_cons.2 ⟨⟨by decide, Iv a.tick, Iv b.tick, Zbc rfl rfl rfl, Zbc rfl rfl rfl, Zfx rfl⟩, fun _ h => absurd h (by simp)⟩⟩⟩⟩⟩)
theorem Zt6 (a : Head) : Zj7 a a = true := by simp [Zj7, Zcg]
def Ze1 (a b : Signed) : Bool := ((Zj7 a.head b.head) && ((a.node == b.node) && ((Zcg 32 a.tag b.tag) && true)))
theorem Zrf (a b : Signed) {d : Nat} : Z3 Tryd.prog (Op.equalIn (d + 4) 33 (Zw a) (Zw b)) = some (Ze1 a b) :=
 eqS (P := Tryd.prog) (d + 3) 33 _ (Zh a).toArray (Zh b).toArray (fun f => if f.offset = 0 then (Zj7 a.head b.head) else if f.offset = 36 then (a.node == b.node) else if f.offset = 37 then (Zcg 32 a.tag b.tag) else true) rfl (by kernel_rfl) (List.forall_mem_cons.2 ⟨⟨by decide, Zb2 a.head, Zb2 b.head, Zcr (n := 36) rfl rfl rfl rfl rfl, Zcr (n := 36) rfl rfl rfl rfl rfl, Z33 a.head b.head⟩, List.forall_mem_cons.2 ⟨⟨by decide, Iv a.node, Iv b.node, Zbc rfl rfl rfl, Zbc rfl rfl rfl, Zfx rfl⟩, List.forall_mem_cons.2 ⟨⟨by decide, .agg (Z6 w8 32 a.tag).toArray, .agg (Z6 w8 32 b.tag).toArray, Zcr (n := 32) rfl rfl rfl rfl rfl, Zcr (n := 32) rfl rfl rfl rfl rfl, Zme rfl rfl rfl⟩, fun _ h => absurd h (by simp)⟩⟩⟩)
theorem Zwm {x y : Operand} (a b : Signed) : Zb0 Tryd.prog .eql 33 x y (Zw a) (Zw b) = some (.bool (Ze1 a b)) := Zss (by kernel_rfl) (by kernel_rfl) (Zrf a b (d := 9996))
theorem Zij (a : Signed) : Ze1 a a = true := by simp [Ze1, Zcg, Zt6]
def okHead (a : Head) : Prop := (-9223372036854775808 ≤ a.region ∧ a.region ≤ 9223372036854775807) ∧ (-9223372036854775808 ≤ a.epoch ∧ a.epoch ≤ 9223372036854775807) ∧ (-9223372036854775808 ≤ a.size ∧ a.size ≤ 9223372036854775807) ∧ True ∧ (-9223372036854775808 ≤ a.tick ∧ a.tick ≤ 9223372036854775807) ∧ True
theorem Zw1 : Zax Tryd.prog 28 Zcq okHead := by
 intro H encH W fuel cs x h
 obtain ⟨xs, n, _, _, hl, hxl, hel⟩ := DataW.trod_struct (P := Tryd.prog) (t := 28) (fs := _) rfl h
 have hl' : cs.length = 36 := hl.trans (by kernel_rfl)
 obtain ⟨a0, e0, k0⟩ := Zax.at_ (t := 3) (off := 0) (k := 1) (Zax.int (by kernel_rfl)) (hel 0 _ rfl) (by rw [hxl]; decide) rfl (by kernel_rfl) rfl
 have q0 : cs.drop 0 = [Iv a0] ++ cs.drop 1 := by rw [Zbf 0 1, e0]
 obtain ⟨a1, e1, k1⟩ := Zax.at_ (t := 3) (off := 1) (k := 1) (Zax.int (by kernel_rfl)) (hel 1 _ rfl) (by rw [hxl]; decide) rfl (by kernel_rfl) rfl
 have q1 : cs.drop 1 = [Iv a1] ++ cs.drop 2 := by rw [Zbf 1 1, e1]
 obtain ⟨a2, e2, k2⟩ := Zax.at_ (t := 3) (off := 2) (k := 1) (Zax.int (by kernel_rfl)) (hel 2 _ rfl) (by rw [hxl]; decide) rfl (by kernel_rfl) rfl
 have q2 : cs.drop 2 = [Iv a2] ++ cs.drop 3 := by rw [Zbf 2 1, e2]
 obtain ⟨a3, e3, k3⟩ := Zax.at_ (t := 26) (off := 3) (k := 32) (Zax.bytes (n := 32) (tb := 5) (by kernel_rfl) (by kernel_rfl) (by kernel_rfl) (by kernel_rfl)) (hel 3 _ rfl) (by rw [hxl]; decide) rfl (by kernel_rfl) rfl
 have q3 : cs.drop 3 = Z6 w8 32 a3 ++ cs.drop 35 := by rw [Zbf 3 32, e3]
 obtain ⟨a4, e4, k4⟩ := Zax.at_ (t := 3) (off := 35) (k := 1) (Zax.int (by kernel_rfl)) (hel 4 _ rfl) (by rw [hxl]; decide) rfl (by kernel_rfl) rfl
 have q4 : cs.drop 35 = [Iv a4] ++ cs.drop 36 := by rw [Zbf 35 1, e4]
 have qe : cs.drop 36 = [] := List.drop_of_length_le (by omega)
 refine ⟨⟨a0, a1, a2, a3, a4⟩, ?_, k0, k1, k2, k3, k4, trivial⟩
 rw [List.drop_zero] at q0
 rw [q0, q1, q2, q3, q4, qe]
 simp [Zcq]
def okSigned (a : Signed) : Prop := okHead a.head ∧ (-9223372036854775808 ≤ a.node ∧ a.node ≤ 9223372036854775807) ∧ True ∧ True
theorem Zmv : Zax Tryd.prog 33 Zh okSigned := by
 intro H encH W fuel cs x h
 obtain ⟨xs, n, _, _, hl, hxl, hel⟩ := DataW.trod_struct (P := Tryd.prog) (t := 33) (fs := _) rfl h
 have hl' : cs.length = 69 := hl.trans (by kernel_rfl)
 obtain ⟨a0, e0, k0⟩ := Zax.at_ (t := 28) (off := 0) (k := 36) (Zw1) (hel 0 _ rfl) (by rw [hxl]; decide) rfl (by kernel_rfl) rfl
 have q0 : cs.drop 0 = Zcq a0 ++ cs.drop 36 := by rw [Zbf 0 36, e0]
 obtain ⟨a1, e1, k1⟩ := Zax.at_ (t := 3) (off := 36) (k := 1) (Zax.int (by kernel_rfl)) (hel 1 _ rfl) (by rw [hxl]; decide) rfl (by kernel_rfl) rfl
 have q1 : cs.drop 36 = [Iv a1] ++ cs.drop 37 := by rw [Zbf 36 1, e1]
 obtain ⟨a2, e2, k2⟩ := Zax.at_ (t := 26) (off := 37) (k := 32) (Zax.bytes (n := 32) (tb := 5) (by kernel_rfl) (by kernel_rfl) (by kernel_rfl) (by kernel_rfl)) (hel 2 _ rfl) (by rw [hxl]; decide) rfl (by kernel_rfl) rfl
 have q2 : cs.drop 37 = Z6 w8 32 a2 ++ cs.drop 69 := by rw [Zbf 37 32, e2]
 have qe : cs.drop 69 = [] := List.drop_of_length_le (by omega)
 refine ⟨⟨a0, a1, a2⟩, ?_, k0, k1, k2, trivial⟩
 rw [List.drop_zero] at q0
 rw [q0, q1, q2, qe]
 simp [Zh]
end Go.Flat
