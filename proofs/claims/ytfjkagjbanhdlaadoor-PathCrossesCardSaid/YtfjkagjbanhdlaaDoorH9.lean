/- Walks. -/
import Derived.Test.YtfjkagjbanhdlaaDoorH5
import Derived.Test.YtfjkagjbanhdlaaDoorFlatG
set_option linter.unusedVariables false
set_option linter.unusedSimpArgs false
set_option maxRecDepth 20000
namespace Go.Flat
open Go.Proofs
variable {G : Glob}
def Zev : ByteArray := ⟨#[104, 101, 97, 100, 32]⟩
theorem Zkx : Zev.size = 5 := rfl
theorem Zl4 (h : Head) : (Zag h).2 = Za4 h := by
 unfold Zag
 split
 ·rename_i h0; exact h0.symm
 ·rfl
def Zm7 : List Field → Nat
  | [] => 0
  | f :: l => f.data.size + 4 + Zm7 l
theorem Zhy : ∀ (fs : List Field) (last : Int) (acc : Bs), (Z8 fs last acc).1.length ≤ acc.length + Zm7 fs
 | [], _, acc => by simp [Z8, Zm7]
 | f :: fs, last, acc => by
  rw [Z8]
  split
  ·have := Zhy fs f.tag (acc ++ Zjg f)
   rw [List.length_append, Zpi] at this
   simp only [Zm7]; omega
  ·simp
theorem Zuf : ∀ (f n a : Nat) (b : D), (Zni f n a b).length ≤ 8
 | 0, n, a, b => by rw [Zni, List.length_drop, Zj3]; omega
 | f + 1, n, a, b => by
  rw [Zni]
  split
  ·rw [List.length_drop, Zj3]; omega
  ·exact Zuf f _ _ _
theorem Zbg (n : Int) : (Zv n).1.size ≤ 8 := by
 unfold Zv
 split
 ·rw [Za3]; exact Zuf _ _ _ _
 ·show 0 ≤ 8; omega
theorem Zps (h : Head) : (Zag h).1.length ≤ 100 := by
 unfold Zag
 split
 ·have := Zhy (Zgz 0 (Zhn h)) 0 []
  simp only [Zhn, Zgz, Zm7, Za3, Zf3, List.length_nil] at this
  have h1 := Zbg h.region
  have h2 := Zbg h.epoch
  have h3 := Zbg h.size
  have h4 := Zbg h.tick
  show (Z8 (Zgz 0 (Zhn h)) 0 []).1.length ≤ 100
  simp only [Zhn, Zgz]
  omega
 ·simp
def Zaj (s : Signed) : Bs × Int := if Za4 s.head = 0 ∧ 1 ≤ s.node ∧ s.node ≤ 3 then (Zcr [Zr (Zag s.head).1, (Zv s.node).1, Zr (dgL s.tag)], 0) else ([], 70)
def Zk9 (kk : Nat → BitVec 32) (master : D) (h : Head) (node : Int) : Signed × Int :=
  if ((Zag h).2) ≠ 0 then ((⟨(⟨0, 0, 0, dz, 0⟩ : Head), 0, dz⟩ : Signed), ((Zag h).2)) else
  if ((Zbp kk master h.region node).2) ≠ 0 then ((⟨(⟨0, 0, 0, dz, 0⟩ : Head), 0, dz⟩ : Signed), 70) else
  ((⟨h, node, (Zgh kk ((Zbp kk master h.region node).1) (Zev ++ (Zr ((Zag h).1))))⟩ : Signed), 0)
theorem Z2i (kk : Nat → BitVec 32) (hG : G 0 = some (Zad w32 64 kk)) (master : D) (h : Head) (node : Int) : Zaf Tryd.prog G 9 [dgV master, Zbn h, Iv node] [] (.tuple #[Zs (Zk9 kk master h node).1, Iv (Zk9 kk master h node).2]) [] := by
 refine Zbj (fn := Tryd.f9) (nt := 39) rfl rfl rfl rfl ?_
 refine Zai 5 (H' := [hole, hole, hole, hole, hole]) rfl ?_
 refine Zg (Zj ?_)
 refine Zcj (v := dgV master) (b := dgB master) (nid := 0) (H' := [dgB master, hole, hole, hole, hole]) rfl rfl rfl (by kernel_rfl) (by kernel_rfl) ?_
 refine Zcj (v := Zbn h) (b := bxB 36 (Zbf h)) (nid := 1) (H' := [dgB master, bxB 36 (Zbf h), hole, hole, hole]) rfl rfl rfl (by kernel_rfl) (by kernel_rfl) ?_
 refine Z2 (b := bxB 69 (Za (⟨(⟨0, 0, 0, dz, 0⟩ : Head), 0, dz⟩ : Signed))) (nid := 2) (H' := [dgB master, bxB 36 (Zbf h), bxB 69 (Za (⟨(⟨0, 0, 0, dz, 0⟩ : Head), 0, dz⟩ : Signed)), hole, hole]) rfl rfl (by kernel_rfl) (by kernel_rfl) ?_
 refine Zd rfl rfl (Iv 0) rfl (Zb (Zc (Zg (Zj ?_))))
 refine Zp (p := pt 1 0) (v := Zbn h) rfl rfl rfl (by kernel_rfl) ?_
 have hpe4 := Zl4 h
 have hpl4 := Zps h
 refine Z4 (e := []) (nid := 3) (Zwl (G := G) h) (vals := [Zbn h]) (v := .tuple #[slv 3 0 ((Zag h).1.length) ((Zag h).1.length), Iv ((Zag h).2)]) (H' := [dgB master, bxB 36 (Zbf h), bxB 69 (Za (⟨(⟨0, 0, 0, dz, 0⟩ : Head), 0, dz⟩ : Signed)), Zaq ((Zag h).1), hole]) rfl rfl rfl rfl rfl rfl rfl ⟨⟨rfl, trivial⟩, trivial, rfl, rfl, rfl⟩ (by kernel_rfl) (by kernel_rfl) ?_
 refine Zf rfl rfl (.tuple #[slv 3 0 ((Zag h).1.length) ((Zag h).1.length), Iv ((Zag h).2)]) rfl (Zu (vs := #[slv 3 0 ((Zag h).1.length) ((Zag h).1.length), Iv ((Zag h).2)]) (v := slv 3 0 ((Zag h).1.length) ((Zag h).1.length)) rfl rfl rfl rfl (Zu (vs := #[slv 3 0 ((Zag h).1.length) ((Zag h).1.length), Iv ((Zag h).2)]) (v := Iv ((Zag h).2)) rfl rfl rfl rfl (Zd rfl rfl (slv 3 0 ((Zag h).1.length) ((Zag h).1.length)) rfl (Zd rfl rfl (Iv ((Zag h).2)) rfl (Zb (Zc (Zg (Zg (Zj (Zf rfl rfl (Iv ((Zag h).2)) rfl ?_))))))))))
 by_cases h1 : ((Zag h).2) ≠ 0
 refine Zo (vx := Iv ((Zag h).2)) (vy := Iv 0) rfl rfl (.bool true) rfl rfl (Zdr (by omega)) ?_
 refine Zb (Zc (Z0 rfl (Zg (Zj ?_))))
 refine Za1 (vs := []) (v := Zs (⟨(⟨0, 0, 0, dz, 0⟩ : Head), 0, dz⟩ : Signed)) rfl rfl rfl (by kernel_rfl) ?_
 refine Zf rfl rfl (Iv ((Zag h).2)) rfl ?_
 refine Zw (p := pt 2 0) (v := Zs (⟨(⟨0, 0, 0, dz, 0⟩ : Head), 0, dz⟩ : Signed)) (b := 2) (blk := bxB 69 (Za (⟨(⟨0, 0, 0, dz, 0⟩ : Head), 0, dz⟩ : Signed))) (H' := [dgB master, bxB 36 (Zbf h), bxB 69 (Za (⟨(⟨0, 0, 0, dz, 0⟩ : Head), 0, dz⟩ : Signed)), Zaq ((Zag h).1), hole]) rfl rfl rfl (by kernel_rfl) (by kernel_rfl) ?_
 refine Zd rfl rfl (Iv ((Zag h).2)) rfl (Zb (Zc (Zx (Zaa (Zy ?_)))))
 rw [show Zk9 kk master h node = ((⟨(⟨0, 0, 0, dz, 0⟩ : Head), 0, dz⟩ : Signed), ((Zag h).2)) from by unfold Zk9; rw [if_pos h1]]
 exact Zq (v := .tuple #[Zs (⟨(⟨0, 0, 0, dz, 0⟩ : Head), 0, dz⟩ : Signed), Iv ((Zag h).2)]) (by kernel_rfl) rfl rfl (by kernel_rfl) ⟨(Zgo (by kernel_rfl) rfl), rfl, trivial⟩
 refine Zo (vx := Iv ((Zag h).2)) (vy := Iv 0) rfl rfl (.bool false) rfl rfl (Zdb (by omega)) ?_
 refine Zb (Zc (Zz rfl (Z5 (Zc (Zg (Zj ?_))))))
 refine Zp (p := pt 0 0) (v := dgV master) rfl rfl rfl (by kernel_rfl) ?_
 refine Zn (b := 1) (o := 0) (n := 0) (o' := 0) rfl rfl rfl rfl rfl ?_
 refine Zp (p := pt 1 0) (v := Iv h.region) rfl rfl rfl (by kernel_rfl) ?_
 refine Zf rfl rfl (Iv node) rfl ?_
 refine Zt (Zzg (G := G) kk hG master h.region node) (vals := [dgV master, Iv h.region, Iv node]) (res' := .tuple #[dgV ((Zbp kk master h.region node).1), Iv ((Zbp kk master h.region node).2)]) rfl rfl rfl rfl rfl (by kernel_rfl) ?_
 refine Zf rfl rfl (.tuple #[dgV ((Zbp kk master h.region node).1), Iv ((Zbp kk master h.region node).2)]) rfl (Zu (vs := #[dgV ((Zbp kk master h.region node).1), Iv ((Zbp kk master h.region node).2)]) (v := dgV ((Zbp kk master h.region node).1)) rfl rfl rfl rfl (Zu (vs := #[dgV ((Zbp kk master h.region node).1), Iv ((Zbp kk master h.region node).2)]) (v := Iv ((Zbp kk master h.region node).2)) rfl rfl rfl rfl ?_))
 refine Z2 (b := dgB dz) (nid := 4) (H' := [dgB master, bxB 36 (Zbf h), bxB 69 (Za (⟨(⟨0, 0, 0, dz, 0⟩ : Head), 0, dz⟩ : Signed)), Zaq ((Zag h).1), dgB dz]) rfl rfl (by kernel_rfl) (by kernel_rfl) ?_
 refine Zw (p := pt 4 0) (v := dgV ((Zbp kk master h.region node).1)) (b := 4) (blk := dgB ((Zbp kk master h.region node).1)) (H' := [dgB master, bxB 36 (Zbf h), bxB 69 (Za (⟨(⟨0, 0, 0, dz, 0⟩ : Head), 0, dz⟩ : Signed)), Zaq ((Zag h).1), dgB ((Zbp kk master h.region node).1)]) rfl rfl rfl (by kernel_rfl) (by kernel_rfl) ?_
 refine Zd rfl rfl (Iv ((Zbp kk master h.region node).2)) rfl (Zb (Zc (Zg (Zg (Zj (Zf rfl rfl (Iv ((Zbp kk master h.region node).2)) rfl ?_))))))
 by_cases h2 : ((Zbp kk master h.region node).2) ≠ 0
 refine Zo (vx := Iv ((Zbp kk master h.region node).2)) (vy := Iv 0) rfl rfl (.bool true) rfl rfl (Zdr (by omega)) ?_
 refine Zb (Zc (Z0 rfl (Zg (Zj ?_))))
 refine Za1 (vs := []) (v := Zs (⟨(⟨0, 0, 0, dz, 0⟩ : Head), 0, dz⟩ : Signed)) rfl rfl rfl (by kernel_rfl) ?_
 refine Zw (p := pt 2 0) (v := Zs (⟨(⟨0, 0, 0, dz, 0⟩ : Head), 0, dz⟩ : Signed)) (b := 2) (blk := bxB 69 (Za (⟨(⟨0, 0, 0, dz, 0⟩ : Head), 0, dz⟩ : Signed))) (H' := [dgB master, bxB 36 (Zbf h), bxB 69 (Za (⟨(⟨0, 0, 0, dz, 0⟩ : Head), 0, dz⟩ : Signed)), Zaq ((Zag h).1), dgB ((Zbp kk master h.region node).1)]) rfl rfl rfl (by kernel_rfl) (by kernel_rfl) ?_
 refine Zd rfl rfl (Iv 70) rfl (Zb (Zc (Zx (Zaa (Zy ?_)))))
 rw [show Zk9 kk master h node = ((⟨(⟨0, 0, 0, dz, 0⟩ : Head), 0, dz⟩ : Signed), 70) from by unfold Zk9; rw [if_neg h1, if_pos h2]]
 exact Zq (v := .tuple #[Zs (⟨(⟨0, 0, 0, dz, 0⟩ : Head), 0, dz⟩ : Signed), Iv 70]) (by kernel_rfl) rfl rfl (by kernel_rfl) ⟨(Zgo (by kernel_rfl) rfl), rfl, trivial⟩
 refine Zo (vx := Iv ((Zbp kk master h.region node).2)) (vy := Iv 0) rfl rfl (.bool false) rfl rfl (Zdb (by omega)) ?_
 refine Zb (Zc (Zz rfl (Z5 (Zc (Zg ?_)))))
 refine Zl8 (by kernel_rfl) ?_
 refine Zp (p := pt 1 0) (v := Zbn h) rfl rfl rfl (by kernel_rfl) ?_
 refine Zf rfl rfl (Iv node) rfl ?_
 refine Zp (p := pt 4 0) (v := dgV ((Zbp kk master h.region node).1)) rfl rfl rfl (by kernel_rfl) ?_
 refine Zf rfl rfl (slv 3 0 ((Zag h).1.length) ((Zag h).1.length)) rfl ?_
 refine Zfr (p := slv 3 0 ((Zag h).1.length) ((Zag h).1.length)) (v := .string (Zr ((Zag h).1))) rfl rfl rfl (Zfu rfl rfl rfl rfl rfl (by omega)) ?_
 refine Zo (vx := .string Zev) (vy := .string (Zr ((Zag h).1))) rfl rfl (.string (Zev ++ (Zr ((Zag h).1)))) rfl rfl (Zk0 (by simp only [ByteArray.size_append, Za3, Zh2, Zf3, Zkx]; omega)) ?_
 refine Zt (Zvz (G := G) kk hG ((Zbp kk master h.region node).1) (Zev ++ (Zr ((Zag h).1))) (by simp only [ByteArray.size_append, Za3, Zkx]; omega)) (vals := [dgV ((Zbp kk master h.region node).1), .string (Zev ++ (Zr ((Zag h).1)))]) (res' := dgV (Zgh kk ((Zbp kk master h.region node).1) (Zev ++ (Zr ((Zag h).1))))) rfl rfl rfl rfl rfl (by kernel_rfl) ?_
 refine Za1 (vs := [(0, Zbn h), (1, Iv node), (2, dgV (Zgh kk ((Zbp kk master h.region node).1) (Zev ++ (Zr ((Zag h).1)))))]) (v := Zs (⟨h, node, (Zgh kk ((Zbp kk master h.region node).1) (Zev ++ (Zr ((Zag h).1))))⟩ : Signed)) rfl rfl rfl (by kernel_rfl) ?_
 refine Zw (p := pt 2 0) (v := Zs (⟨h, node, (Zgh kk ((Zbp kk master h.region node).1) (Zev ++ (Zr ((Zag h).1))))⟩ : Signed)) (b := 2) (blk := bxB 69 (Za (⟨h, node, (Zgh kk ((Zbp kk master h.region node).1) (Zev ++ (Zr ((Zag h).1))))⟩ : Signed))) (H' := [dgB master, bxB 36 (Zbf h), bxB 69 (Za (⟨h, node, (Zgh kk ((Zbp kk master h.region node).1) (Zev ++ (Zr ((Zag h).1))))⟩ : Signed)), Zaq ((Zag h).1), dgB ((Zbp kk master h.region node).1)]) rfl rfl rfl (by kernel_rfl) (by kernel_rfl) ?_
 refine Zd rfl rfl (Iv 0) rfl ?_
 refine Zku (by kernel_rfl) ?_
 refine Zc (Zx (Zy ?_))
 rw [show Zk9 kk master h node = ((⟨h, node, (Zgh kk ((Zbp kk master h.region node).1) (Zev ++ (Zr ((Zag h).1))))⟩ : Signed), 0) from by unfold Zk9; rw [if_neg h1, if_neg h2]]
 exact Zq (v := .tuple #[Zs (⟨h, node, (Zgh kk ((Zbp kk master h.region node).1) (Zev ++ (Zr ((Zag h).1))))⟩ : Signed), Iv 0]) (by kernel_rfl) rfl rfl (by kernel_rfl) ⟨(Zgo (by kernel_rfl) rfl), rfl, trivial⟩
def Zfy (kk : Nat → BitVec 32) (master : D) (s : Signed) : Int :=
  if ((Zag s.head).2) ≠ 0 then 70 else
  if 1 ≤ s.node then (if s.node ≤ 3 then (Zgp kk master s.head.region s.node (Zev ++ (Zr ((Zag s.head).1))) s.tag) else
  70) else
  70
theorem Zze (kk : Nat → BitVec 32) (hG : G 0 = some (Zad w32 64 kk)) (master : D) (s : Signed) : Zaf Tryd.prog G 47 [dgV master, Zs s] [] (Iv (Zfy kk master s)) [] := by
 refine Zbj (fn := Tryd.f47) (nt := 33) rfl rfl rfl rfl ?_
 refine Zai 3 (H' := [hole, hole, hole]) rfl ?_
 refine Zg (Zj ?_)
 refine Zcj (v := dgV master) (b := dgB master) (nid := 0) (H' := [dgB master, hole, hole]) rfl rfl rfl (by kernel_rfl) (by kernel_rfl) ?_
 refine Zcj (v := Zs s) (b := bxB 69 (Za s)) (nid := 1) (H' := [dgB master, bxB 69 (Za s), hole]) rfl rfl rfl (by kernel_rfl) (by kernel_rfl) ?_
 refine Zd rfl rfl (Iv 0) rfl (Zb (Zc (Zg (Zj ?_))))
 refine Zn (b := 1) (o := 0) (n := 0) (o' := 0) rfl rfl rfl rfl rfl ?_
 refine Zp (p := pt 1 0) (v := Zbn s.head) rfl rfl rfl (by kernel_rfl) ?_
 have hpe3 := Zl4 s.head
 have hpl3 := Zps s.head
 refine Z4 (e := []) (nid := 2) (Zwl (G := G) s.head) (vals := [Zbn s.head]) (v := .tuple #[slv 2 0 ((Zag s.head).1.length) ((Zag s.head).1.length), Iv ((Zag s.head).2)]) (H' := [dgB master, bxB 69 (Za s), Zaq ((Zag s.head).1)]) rfl rfl rfl rfl rfl rfl rfl ⟨⟨rfl, trivial⟩, trivial, rfl, rfl, rfl⟩ (by kernel_rfl) (by kernel_rfl) ?_
 refine Zf rfl rfl (.tuple #[slv 2 0 ((Zag s.head).1.length) ((Zag s.head).1.length), Iv ((Zag s.head).2)]) rfl (Zu (vs := #[slv 2 0 ((Zag s.head).1.length) ((Zag s.head).1.length), Iv ((Zag s.head).2)]) (v := slv 2 0 ((Zag s.head).1.length) ((Zag s.head).1.length)) rfl rfl rfl rfl (Zu (vs := #[slv 2 0 ((Zag s.head).1.length) ((Zag s.head).1.length), Iv ((Zag s.head).2)]) (v := Iv ((Zag s.head).2)) rfl rfl rfl rfl (Zd rfl rfl (slv 2 0 ((Zag s.head).1.length) ((Zag s.head).1.length)) rfl (Zd rfl rfl (Iv ((Zag s.head).2)) rfl (Zb (Zc (Zg (Zg (Zj (Zf rfl rfl (Iv ((Zag s.head).2)) rfl ?_))))))))))
 by_cases h1 : ((Zag s.head).2) ≠ 0
 refine Zo (vx := Iv ((Zag s.head).2)) (vy := Iv 0) rfl rfl (.bool true) rfl rfl (Zdr (by omega)) ?_
 refine Zf rfl rfl (.bool true) rfl (Zi rfl rfl (Zi rfl rfl (Zi rfl rfl (Zi rfl rfl (Zm rfl rfl (.bool true) rfl (Zb (Zc (Z0 rfl (Zg (Zj (Zd rfl rfl (Iv 70) rfl (Zb (Zc (Zx (Zaa (Zy ?_))))))))))))))))
 rw [show Zfy kk master s = 70 from by unfold Zfy; rw [if_pos h1]]
 exact Zq (v := Iv 70) rfl rfl rfl (by kernel_rfl) rfl
 refine Zo (vx := Iv ((Zag s.head).2)) (vy := Iv 0) rfl rfl (.bool false) rfl rfl (Zdb (by omega)) ?_
 refine Zf rfl rfl (.bool false) rfl ?_
 refine Zn (b := 1) (o := 0) (n := 36) (o' := 36) rfl rfl rfl rfl rfl ?_
 refine Zp (p := pt 1 36) (v := Iv s.node) rfl rfl rfl (by kernel_rfl) ?_
 by_cases h2 : 1 ≤ s.node
 by_cases h3 : s.node ≤ 3
 refine Zt ((Zb6 (G := G) s.node 1 3).res (congrArg Value.bool (Zb7 (by omega) (by omega)))) (vals := [Iv s.node, Iv 1, Iv 3]) (res' := .bool true) rfl rfl rfl rfl rfl rfl ?_
 refine Ziy (vx := .bool true) rfl rfl (.bool false) rfl Zer ?_
 refine Zm rfl rfl (.bool false) rfl (Zb (Zc (Zz rfl (Z5 (Zc (Zg (Zj ?_)))))))
 refine Zp (p := pt 0 0) (v := dgV master) rfl rfl rfl (by kernel_rfl) ?_
 refine Zn (b := 1) (o := 0) (n := 0) (o' := 0) rfl rfl rfl rfl rfl ?_
 refine Zn (b := 1) (o := 0) (n := 0) (o' := 0) rfl rfl rfl rfl rfl ?_
 refine Zp (p := pt 1 0) (v := Iv s.head.region) rfl rfl rfl (by kernel_rfl) ?_
 refine Zn (b := 1) (o := 0) (n := 36) (o' := 36) rfl rfl rfl rfl rfl ?_
 refine Zp (p := pt 1 36) (v := Iv s.node) rfl rfl rfl (by kernel_rfl) ?_
 refine Zf rfl rfl (slv 2 0 ((Zag s.head).1.length) ((Zag s.head).1.length)) rfl ?_
 refine Zfr (p := slv 2 0 ((Zag s.head).1.length) ((Zag s.head).1.length)) (v := .string (Zr ((Zag s.head).1))) rfl rfl rfl (Zfu rfl rfl rfl rfl rfl (by omega)) ?_
 refine Zo (vx := .string Zev) (vy := .string (Zr ((Zag s.head).1))) rfl rfl (.string (Zev ++ (Zr ((Zag s.head).1)))) rfl rfl (Zk0 (by simp only [ByteArray.size_append, Za3, Zh2, Zf3, Zkx]; omega)) ?_
 refine Zn (b := 1) (o := 0) (n := 37) (o' := 37) rfl rfl rfl rfl rfl ?_
 refine Zp (p := pt 1 37) (v := dgV s.tag) rfl rfl rfl (by kernel_rfl) ?_
 refine Zt (Z1l (G := G) kk hG master s.head.region s.node (Zev ++ (Zr ((Zag s.head).1))) s.tag (by simp only [ByteArray.size_append, Za3, Zkx]; omega)) (vals := [dgV master, Iv s.head.region, Iv s.node, .string (Zev ++ (Zr ((Zag s.head).1))), dgV s.tag]) (res' := Iv (Zgp kk master s.head.region s.node (Zev ++ (Zr ((Zag s.head).1))) s.tag)) rfl rfl rfl rfl rfl rfl ?_
 refine Zd rfl rfl (Iv (Zgp kk master s.head.region s.node (Zev ++ (Zr ((Zag s.head).1))) s.tag)) rfl (Zb (Zc (Zx (Zy ?_))))
 rw [show Zfy kk master s = (Zgp kk master s.head.region s.node (Zev ++ (Zr ((Zag s.head).1))) s.tag) from by unfold Zfy; rw [if_neg h1, if_pos h2, if_pos h3]]
 exact Zq (v := Iv (Zgp kk master s.head.region s.node (Zev ++ (Zr ((Zag s.head).1))) s.tag)) rfl rfl rfl (by kernel_rfl) rfl
 refine Zt ((Zb6 (G := G) s.node 1 3).res (congrArg Value.bool (Zan (by omega)))) (vals := [Iv s.node, Iv 1, Iv 3]) (res' := .bool false) rfl rfl rfl rfl rfl rfl ?_
 refine Ziy (vx := .bool false) rfl rfl (.bool true) rfl Zer ?_
 refine Zm rfl rfl (.bool true) rfl (Zb (Zc (Z0 rfl (Zg (Zj (Zd rfl rfl (Iv 70) rfl (Zb (Zc (Zx (Zaa (Zy ?_)))))))))))
 rw [show Zfy kk master s = 70 from by unfold Zfy; rw [if_neg h1, if_pos h2, if_neg h3]]
 exact Zq (v := Iv 70) rfl rfl rfl (by kernel_rfl) rfl
 refine Zt ((Zb6 (G := G) s.node 1 3).res (congrArg Value.bool (Zan (by omega)))) (vals := [Iv s.node, Iv 1, Iv 3]) (res' := .bool false) rfl rfl rfl rfl rfl rfl ?_
 refine Ziy (vx := .bool false) rfl rfl (.bool true) rfl Zer ?_
 refine Zm rfl rfl (.bool true) rfl (Zb (Zc (Z0 rfl (Zg (Zj (Zd rfl rfl (Iv 70) rfl (Zb (Zc (Zx (Zaa (Zy ?_)))))))))))
 rw [show Zfy kk master s = 70 from by unfold Zfy; rw [if_neg h1, if_neg h2]]
 exact Zq (v := Iv 70) rfl rfl rfl (by kernel_rfl) rfl
theorem Zmb (s : Signed) : Zaf Tryd.prog G 27 [Zs s] [] (.tuple #[slv 0 0 (Zaj s).1.length (Zaj s).1.length, Iv (Zaj s).2]) [Zaq (Zaj s).1] := by
  refine Zbj (fn := Tryd.f27) (nt := 32) rfl rfl rfl rfl ?_
  refine Zai 5 (H' := [hole, hole, hole, hole, hole]) rfl ?_
  refine Zg (Zj ?_)
  refine Zcj (v := Zs s) (b := bxB 69 (Za s)) (nid := 0) (H' := [bxB 69 (Za s), hole, hole, hole, hole]) rfl rfl rfl (by kernel_rfl) (by kernel_rfl) ?_
  refine Zd rfl rfl (.slice none 0 0) rfl (Zd rfl rfl (Iv 0) rfl (Zb (Zc (Zg (Zj ?_)))))
  refine Zn (b := 0) (o := 0) (n := 0) (o' := 0) rfl rfl rfl rfl rfl ?_
  refine Zp (p := pt 0 0) (v := Zbn s.head) rfl rfl rfl (by kernel_rfl) ?_
  have hpe6 := Zl4 s.head
  have hpl6 := Zps s.head
  refine Z4 (e := []) (nid := 1) (Zwl (G := G) s.head) (vals := [Zbn s.head]) (v := .tuple #[slv 1 0 ((Zag s.head).1.length) ((Zag s.head).1.length), Iv ((Zag s.head).2)]) (H' := [bxB 69 (Za s), Zaq ((Zag s.head).1), hole, hole, hole]) rfl rfl rfl rfl rfl rfl rfl ⟨⟨rfl, trivial⟩, trivial, rfl, rfl, rfl⟩ (by kernel_rfl) (by kernel_rfl) ?_
  refine Zf rfl rfl (.tuple #[slv 1 0 ((Zag s.head).1.length) ((Zag s.head).1.length), Iv ((Zag s.head).2)]) rfl (Zu (vs := #[slv 1 0 ((Zag s.head).1.length) ((Zag s.head).1.length), Iv ((Zag s.head).2)]) (v := slv 1 0 ((Zag s.head).1.length) ((Zag s.head).1.length)) rfl rfl rfl rfl (Zu (vs := #[slv 1 0 ((Zag s.head).1.length) ((Zag s.head).1.length), Iv ((Zag s.head).2)]) (v := Iv ((Zag s.head).2)) rfl rfl rfl rfl (Zd rfl rfl (slv 1 0 ((Zag s.head).1.length) ((Zag s.head).1.length)) rfl (Zd rfl rfl (Iv ((Zag s.head).2)) rfl (Zb (Zc (Zg (Zg (Zj (Zf rfl rfl (Iv ((Zag s.head).2)) rfl ?_))))))))))
  by_cases h1 : ((Zag s.head).2) ≠ 0
  refine Zo (vx := Iv ((Zag s.head).2)) (vy := Iv 0) rfl rfl (.bool true) rfl rfl (Zdr (by omega)) ?_
  refine Zf rfl rfl (.bool true) rfl (Zi rfl rfl (Zi rfl rfl (Zi rfl rfl (Zi rfl rfl (Zm rfl rfl (.bool true) rfl (Zb (Zc (Z0 rfl (Zg (Zj (Zd rfl rfl (.slice none 0 0) rfl (Zd rfl rfl (Iv 70) rfl (Zb (Zc ?_))))))))))))))
  refine Zby (Zbt.nilTmp (i := 2) (b := 2) true 1 rfl (by decide) rfl) ?_
  refine Zx (Zaa (Zy ?_))
  rw [show Zaj s = ([], 70) from if_neg (by omega)]
  exact Za2 [2] (v := .tuple #[slv 2 0 0 0, Iv 70]) rfl (by kernel_rfl) rfl rfl (by decide) (by simp [Za8, Zaq]) ⟨⟨rfl, rfl, rfl, by first | omega | exact Nat.le_refl _ | exact Nat.zero_le _ | (dsimp only; omega), by first | omega | exact Nat.le_refl _ | exact Nat.zero_le _ | (dsimp only; omega)⟩, rfl, trivial⟩
  refine Zo (vx := Iv ((Zag s.head).2)) (vy := Iv 0) rfl rfl (.bool false) rfl rfl (Zdb (by omega)) ?_
  refine Zf rfl rfl (.bool false) rfl ?_
  refine Zn (b := 0) (o := 0) (n := 36) (o' := 36) rfl rfl rfl rfl rfl ?_
  refine Zp (p := pt 0 36) (v := Iv s.node) rfl rfl rfl (by kernel_rfl) ?_
  by_cases h2 : 1 ≤ s.node
  by_cases h3 : s.node ≤ 3
  refine Zt ((Zb6 (G := G) s.node 1 3).res (congrArg Value.bool (Zb7 (by omega) (by omega)))) (vals := [Iv s.node, Iv 1, Iv 3]) (res' := .bool true) rfl rfl rfl rfl rfl rfl ?_
  refine Ziy (vx := .bool true) rfl rfl (.bool false) rfl Zer ?_
  refine Zm rfl rfl (.bool false) rfl (Zb (Zc (Zz rfl (Z5 (Zc (Zg (Zj ?_)))))))
  refine Z2 (b := rfB (.slice none 0 0)) (nid := 2) (H' := [bxB 69 (Za s), Zaq ((Zag s.head).1), rfB (.slice none 0 0), hole, hole]) rfl rfl (by kernel_rfl) (by kernel_rfl) ?_
  refine Zb (Zc (Zg ?_))
  refine Zby (Zbt.nilCell (k := 2) (j := 0) (b := 3) true 1 rfl (by decide) rfl (by show 0 < 1; decide) rfl rfl) ?_
  refine Zj (Zf rfl rfl (slv 1 0 ((Zag s.head).1.length) ((Zag s.head).1.length)) rfl ?_)
  refine Zfr (p := slv 1 0 ((Zag s.head).1.length) ((Zag s.head).1.length)) (v := .string (Zr ((Zag s.head).1))) rfl rfl rfl (Zfu rfl rfl rfl rfl rfl (by omega)) ?_
  refine Zcy (e := [some (2, 0), some (3, 0)]) (nid := 0) (Zpw (G := G) [] 0 (Zr ((Zag s.head).1)) rfl (by omega)) (vals := [pt 2 0, .string (Zr ((Zag s.head).1))]) (v := .tuple #[]) (H' := [bxB 69 (Za s), Zaq ((Zag s.head).1), rfB (slv 3 0 1 1), txB ([] ++ [(Zr ((Zag s.head).1))]), hole]) rfl rfl rfl rfl rfl rfl ⟨⟨⟨rfl, rfl⟩, rfl, trivial⟩, ⟨(Zax rfl rfl rfl rfl), (Zax rfl rfl rfl rfl), trivial⟩, rfl, rfl, rfl, Nat.le_refl _⟩ (by kernel_rfl) rfl (by kernel_rfl) ?_
  refine Zb (Zc (Zg (Zj ?_)))
  refine Zn (b := 0) (o := 0) (n := 36) (o' := 36) rfl rfl rfl rfl rfl ?_
  refine Zp (p := pt 0 36) (v := Iv s.node) rfl rfl rfl (by kernel_rfl) ?_
  refine Zcy (e := [some (2, 0), some (3, 0)]) (nid := 0) (Zkb (G := G) ([] ++ [(Zr ((Zag s.head).1))]) 1 s.node rfl (by omega) (by omega) (by omega)) (vals := [pt 2 0, Iv s.node]) (v := .tuple #[]) (H' := [bxB 69 (Za s), Zaq ((Zag s.head).1), rfB (slv 3 0 2 2), txB (([] ++ [(Zr ((Zag s.head).1))]) ++ [(Zv s.node).1]), hole]) rfl rfl rfl rfl rfl rfl ⟨⟨⟨rfl, rfl⟩, rfl, trivial⟩, ⟨(Zax rfl rfl rfl rfl), (Zax rfl rfl rfl rfl), trivial⟩, rfl, rfl, rfl, Nat.le_refl _⟩ (by kernel_rfl) rfl (by kernel_rfl) ?_
  refine Zb (Zc (Zg (Zj ?_)))
  refine Zn (b := 0) (o := 0) (n := 37) (o' := 37) rfl rfl rfl rfl rfl ?_
  refine Zch (p := pt 0 37) (vl := none) (vh := none) (v := slv 0 37 32 32) rfl rfl rfl rfl rfl rfl ?_
  refine Zfr (p := slv 0 37 32 32) (v := .string (Zr (dgL s.tag))) rfl rfl rfl (Zea (l := (dgL s.tag)) rfl rfl rfl rfl (of_decide_eq_true (by kernel_rfl)) (by kernel_rfl)) ?_
  refine Zcy (e := [some (2, 0), some (3, 0)]) (nid := 0) (Zpw (G := G) (([] ++ [(Zr ((Zag s.head).1))]) ++ [(Zv s.node).1]) 2 (Zr (dgL s.tag)) rfl (by omega)) (vals := [pt 2 0, .string (Zr (dgL s.tag))]) (v := .tuple #[]) (H' := [bxB 69 (Za s), Zaq ((Zag s.head).1), rfB (slv 3 0 3 3), txB ((([] ++ [(Zr ((Zag s.head).1))]) ++ [(Zv s.node).1]) ++ [(Zr (dgL s.tag))]), hole]) rfl rfl rfl rfl rfl rfl ⟨⟨⟨rfl, rfl⟩, rfl, trivial⟩, ⟨(Zax rfl rfl rfl rfl), (Zax rfl rfl rfl rfl), trivial⟩, rfl, rfl, rfl, Nat.le_refl _⟩ (by kernel_rfl) rfl (by kernel_rfl) ?_
  refine Zb (Zc (Zg (Zj ?_)))
  refine Zcy (e := [some (2, 0), some (3, 0)]) (nid := 4) (Zut (G := G) ((([] ++ [(Zr ((Zag s.head).1))]) ++ [(Zv s.node).1]) ++ [(Zr (dgL s.tag))]) 3 rfl (by omega)) (vals := [pt 2 0]) (v := slv 4 0 ((Zcr ((([] ++ [(Zr ((Zag s.head).1))]) ++ [(Zv s.node).1]) ++ [(Zr (dgL s.tag))])).length) ((Zcr ((([] ++ [(Zr ((Zag s.head).1))]) ++ [(Zv s.node).1]) ++ [(Zr (dgL s.tag))])).length)) (H' := [bxB 69 (Za s), Zaq ((Zag s.head).1), rfB (slv 3 0 3 3), txB ((([] ++ [(Zr ((Zag s.head).1))]) ++ [(Zv s.node).1]) ++ [(Zr (dgL s.tag))]), Zaq (Zcr ((([] ++ [(Zr ((Zag s.head).1))]) ++ [(Zv s.node).1]) ++ [(Zr (dgL s.tag))]))]) rfl rfl rfl rfl rfl rfl ⟨⟨⟨rfl, rfl⟩, trivial⟩, ⟨(Zax rfl rfl rfl rfl), (Zax rfl rfl rfl rfl), trivial⟩, rfl, rfl, rfl, Nat.le_refl _⟩ rfl rfl (by kernel_rfl) ?_
  refine Zd rfl rfl (slv 4 0 ((Zcr ((([] ++ [(Zr ((Zag s.head).1))]) ++ [(Zv s.node).1]) ++ [(Zr (dgL s.tag))])).length) ((Zcr ((([] ++ [(Zr ((Zag s.head).1))]) ++ [(Zv s.node).1]) ++ [(Zr (dgL s.tag))])).length)) rfl ?_
  refine Zd rfl rfl (Iv 0) rfl (Zb (Zc (Zx (Zy ?_))))
  rw [show Zaj s = ((Zcr ((([] ++ [(Zr ((Zag s.head).1))]) ++ [(Zv s.node).1]) ++ [(Zr (dgL s.tag))])), 0) from if_pos (by omega)]
  exact Za2 [4] (v := .tuple #[slv 4 0 ((Zcr ((([] ++ [(Zr ((Zag s.head).1))]) ++ [(Zv s.node).1]) ++ [(Zr (dgL s.tag))])).length) ((Zcr ((([] ++ [(Zr ((Zag s.head).1))]) ++ [(Zv s.node).1]) ++ [(Zr (dgL s.tag))])).length), Iv 0]) rfl (by kernel_rfl) rfl rfl (by decide) (by simp [Za8, Zaq]) ⟨⟨rfl, rfl, rfl, by first | omega | exact Nat.le_refl _ | exact Nat.zero_le _ | (dsimp only; omega), by first | omega | exact Nat.le_refl _ | exact Nat.zero_le _ | (dsimp only; omega)⟩, rfl, trivial⟩
  refine Zt ((Zb6 (G := G) s.node 1 3).res (congrArg Value.bool (Zan (by omega)))) (vals := [Iv s.node, Iv 1, Iv 3]) (res' := .bool false) rfl rfl rfl rfl rfl rfl ?_
  refine Ziy (vx := .bool false) rfl rfl (.bool true) rfl Zer ?_
  refine Zm rfl rfl (.bool true) rfl (Zb (Zc (Z0 rfl (Zg (Zj (Zd rfl rfl (.slice none 0 0) rfl (Zd rfl rfl (Iv 70) rfl (Zb (Zc ?_)))))))))
  refine Zby (Zbt.nilTmp (i := 2) (b := 2) true 1 rfl (by decide) rfl) ?_
  refine Zx (Zaa (Zy ?_))
  rw [show Zaj s = ([], 70) from if_neg (by omega)]
  exact Za2 [2] (v := .tuple #[slv 2 0 0 0, Iv 70]) rfl (by kernel_rfl) rfl rfl (by decide) (by simp [Za8, Zaq]) ⟨⟨rfl, rfl, rfl, by first | omega | exact Nat.le_refl _ | exact Nat.zero_le _ | (dsimp only; omega), by first | omega | exact Nat.le_refl _ | exact Nat.zero_le _ | (dsimp only; omega)⟩, rfl, trivial⟩
  refine Zt ((Zb6 (G := G) s.node 1 3).res (congrArg Value.bool (Zan (by omega)))) (vals := [Iv s.node, Iv 1, Iv 3]) (res' := .bool false) rfl rfl rfl rfl rfl rfl ?_
  refine Ziy (vx := .bool false) rfl rfl (.bool true) rfl Zer ?_
  refine Zm rfl rfl (.bool true) rfl (Zb (Zc (Z0 rfl (Zg (Zj (Zd rfl rfl (.slice none 0 0) rfl (Zd rfl rfl (Iv 70) rfl (Zb (Zc ?_)))))))))
  refine Zby (Zbt.nilTmp (i := 2) (b := 2) true 1 rfl (by decide) rfl) ?_
  refine Zx (Zaa (Zy ?_))
  rw [show Zaj s = ([], 70) from if_neg (by omega)]
  exact Za2 [2] (v := .tuple #[slv 2 0 0 0, Iv 70]) rfl (by kernel_rfl) rfl rfl (by decide) (by simp [Za8, Zaq]) ⟨⟨rfl, rfl, rfl, by first | omega | exact Nat.le_refl _ | exact Nat.zero_le _ | (dsimp only; omega), by first | omega | exact Nat.le_refl _ | exact Nat.zero_le _ | (dsimp only; omega)⟩, rfl, trivial⟩
end Go.Flat
namespace Go.Flat
open Go.Proofs
variable {G : Glob}
def beL : Nat → Nat → Bs → Bs
  | 0, _, l => l
  | f + 1, n, l => if n = 0 then l else beL f (n / 256) (BitVec.ofInt 8 (n : Int) :: l)
def Z3g : Nat → List ByteArray → Bs
  | _, [] => []
  | k, x :: l => Zjg ⟨(k : Int) + 1, x⟩ ++ Z3g (k + 1) l
theorem Zx8 {f : Field} {last : Int} (h1 : last < f.tag) (h2 : f.tag ≤ 255) (h3 : f.data.size ≤ 65536) : Zff f last = 0 := by
 unfold Zff
 rw [if_neg (by omega), if_neg (by omega), if_neg (by omega)]
theorem Zm0 : ∀ (ls : List ByteArray) (k : Nat) (acc : Bs), k + ls.length ≤ 255 → (∀ x, x ∈ ls → x.size ≤ 65536) → Z8 (Zgz k ls) (k : Nat) acc = (acc ++ Z3g k ls, 0)
 | [], k, acc, _, _ => by simp [Z8, Zgz, Z3g]
 | x :: l, k, acc, h, hs => by
  simp only [List.length_cons] at h
  rw [Zgz, Z8, if_pos (Zx8 (by dsimp only; omega) (by dsimp only; omega) (hs x (by simp))), Z3g]
  have := Zm0 l (k + 1) (acc ++ Zjg ⟨(k : Int) + 1, x⟩) (by omega) (fun y hy => hs y (by simp [hy]))
  rw [show ((k + 1 : Nat) : Int) = (k : Int) + 1 by omega] at this
  rw [this, List.append_assoc]
end Go.Flat
namespace Go.Flat
open Go.Proofs
variable {G : Glob}
theorem Zl2 {h : Head} (hr : Zfl h) : Zag h = (Zcr (Zhn h), 0) := by
 unfold Zag
 rw [if_pos (by rw [Zft, if_pos hr])]
theorem Zwe (h : Head) : (Zcr (Zhn h)).length ≤ 100 := by
 have := Zhy (Zgz 0 (Zhn h)) 0 []
 simp only [Zhn, Zgz, Zm7, Za3, Zf3, List.length_nil] at this
 have h1 := Zbg h.region
 have h2 := Zbg h.epoch
 have h3 := Zbg h.size
 have h4 := Zbg h.tick
 show (Z8 (Zgz 0 (Zhn h)) 0 []).1.length ≤ 100
 simp only [Zhn, Zgz]
 omega
def Zl1 (s : Signed) : List ByteArray := [Zr (Zcr (Zhn s.head)), (Zv s.node).1, Zr (dgL s.tag)]
def Zi8 (s : Signed) : Prop := Zfl s.head ∧ 1 ≤ s.node ∧ s.node ≤ 3
instance (s : Signed) : Decidable (Zi8 s) := inferInstanceAs (Decidable (_ ∧ _))
theorem Zqt {s : Signed} (h : Zi8 s) : Zaj s = (Zcr (Zl1 s), 0) := by
 unfold Zaj
 rw [if_pos ⟨by rw [Zft, if_pos h.1], h.2⟩, Zl2 h.1]
 try rfl
theorem Zqw {s : Signed} (h : ¬ Zi8 s) : Zaj s = ([], 70) := by
 unfold Zaj
 rw [if_neg]
 rintro ⟨h1, h2⟩
 refine h ⟨?_, h2⟩
 rw [Zft] at h1
 split at h1
 ·assumption
 ·omega
def Zy4 (kk : Nat → BitVec 32) (master : D) (h : Head) (node : Int) : D := Zgh kk (Zgh kk master (Zr [75#8, BitVec.ofInt 8 h.region, BitVec.ofInt 8 node])) (Zev ++ Zr (Zcr (Zhn h)))
def Z3z : Signed := ⟨⟨0, 0, 0, dz, 0⟩, 0, dz⟩
def Zaz (kk : Nat → BitVec 32) (master : D) (h : Head) (node : Int) : Signed × Int := if Zfl h ∧ 1 ≤ node ∧ node ≤ 3 then (⟨h, node, Zy4 kk master h node⟩, 0) else (Z3z, 70)
def Zca (kk : Nat → BitVec 32) (master : D) (s : Signed) : Int := if Zi8 s then (if Zcc 32 (Zy4 kk master s.head s.node) s.tag = true then 0 else 72) else 70
end Go.Flat
namespace Go.Flat
open Go.Proofs Go.ChangeShapes Go.WideShapes Go.RowKit
variable {G : Glob}
def Zij (a b : Head) : Bool := ((a.region == b.region) && ((a.epoch == b.epoch) && ((a.size == b.size) && ((Zcc 32 a.root b.root) && ((a.tick == b.tick) && true)))))
theorem Z2z (a b : Head) {d : Nat} : Z6 Tryd.prog (Op.equalIn (d + 3) 28 (Zbn a) (Zbn b)) = some (Zij a b) :=
 eqS (P := Tryd.prog) (d + 2) 28 _ (Zbf a).toArray (Zbf b).toArray (fun f => if f.offset = 0 then (a.region == b.region) else if f.offset = 1 then (a.epoch == b.epoch) else if f.offset = 2 then (a.size == b.size) else if f.offset = 3 then (Zcc 32 a.root b.root) else if f.offset = 35 then (a.tick == b.tick) else true) rfl (by kernel_rfl) (List.forall_mem_cons.2 ⟨⟨by decide, Iv a.region, Iv b.region, Zbd rfl rfl rfl, Zbd rfl rfl rfl, Zf4 rfl⟩, List.forall_mem_cons.2 ⟨⟨by decide, Iv a.epoch, Iv b.epoch, Zbd rfl rfl rfl, Zbd rfl rfl rfl, Zf4 rfl⟩, List.forall_mem_cons.2 ⟨⟨by decide, Iv a.size, Iv b.size, Zbd rfl rfl rfl, Zbd rfl rfl rfl, Zf4 rfl⟩, List.forall_mem_cons.2 ⟨⟨by decide, .agg (Zad w8 32 a.root).toArray, .agg (Zad w8 32 b.root).toArray, Zcn (n := 32) rfl rfl rfl rfl rfl, Zcn (n := 32) rfl rfl rfl rfl rfl, Zlw rfl rfl rfl⟩, List.forall_mem_cons.2 ⟨⟨by decide, Iv a.tick, Iv b.tick, Zbd rfl rfl rfl, Zbd rfl rfl rfl, Zf4 rfl⟩, fun _ h => absurd h (by simp)⟩⟩⟩⟩⟩)
theorem Zuc (a : Head) : Zij a a = true := by simp [Zij, Zcc]
def Zd4 (a b : Signed) : Bool := ((Zij a.head b.head) && ((a.node == b.node) && ((Zcc 32 a.tag b.tag) && true)))
theorem Zq1 (a b : Signed) {d : Nat} : Z6 Tryd.prog (Op.equalIn (d + 4) 33 (Zs a) (Zs b)) = some (Zd4 a b) :=
 eqS (P := Tryd.prog) (d + 3) 33 _ (Za a).toArray (Za b).toArray (fun f => if f.offset = 0 then (Zij a.head b.head) else if f.offset = 36 then (a.node == b.node) else if f.offset = 37 then (Zcc 32 a.tag b.tag) else true) rfl (by kernel_rfl) (List.forall_mem_cons.2 ⟨⟨by decide, Zbn a.head, Zbn b.head, Zcn (n := 36) rfl rfl rfl rfl rfl, Zcn (n := 36) rfl rfl rfl rfl rfl, Z2z a.head b.head⟩, List.forall_mem_cons.2 ⟨⟨by decide, Iv a.node, Iv b.node, Zbd rfl rfl rfl, Zbd rfl rfl rfl, Zf4 rfl⟩, List.forall_mem_cons.2 ⟨⟨by decide, .agg (Zad w8 32 a.tag).toArray, .agg (Zad w8 32 b.tag).toArray, Zcn (n := 32) rfl rfl rfl rfl rfl, Zcn (n := 32) rfl rfl rfl rfl rfl, Zlw rfl rfl rfl⟩, fun _ h => absurd h (by simp)⟩⟩⟩)
theorem Zom {x y : Operand} (a b : Signed) : Zb1 Tryd.prog .eql 33 x y (Zs a) (Zs b) = some (.bool (Zd4 a b)) := Zsc (by kernel_rfl) (by kernel_rfl) (Zq1 a b (d := 9996))
theorem Zgs (a : Signed) : Zd4 a a = true := by simp [Zd4, Zcc, Zuc]
def okHead (a : Head) : Prop := (-9223372036854775808 ≤ a.region ∧ a.region ≤ 9223372036854775807) ∧ (-9223372036854775808 ≤ a.epoch ∧ a.epoch ≤ 9223372036854775807) ∧ (-9223372036854775808 ≤ a.size ∧ a.size ≤ 9223372036854775807) ∧ True ∧ (-9223372036854775808 ≤ a.tick ∧ a.tick ≤ 9223372036854775807) ∧ True
theorem Zwc : Za0 Tryd.prog 28 Zbf okHead := by
 intro H encH W fuel cs x h
 obtain ⟨xs, n, _, _, hl, hxl, hel⟩ := DataW.trod_struct (P := Tryd.prog) (t := 28) (fs := _) rfl h
 have hl' : cs.length = 36 := hl.trans (by kernel_rfl)
 obtain ⟨a0, e0, k0⟩ := Za0.at_ (t := 3) (off := 0) (k := 1) (Za0.int (by kernel_rfl)) (hel 0 _ rfl) (by rw [hxl]; decide) rfl (by kernel_rfl) rfl
 have q0 : cs.drop 0 = [Iv a0] ++ cs.drop 1 := by rw [Zbu 0 1, e0]
 obtain ⟨a1, e1, k1⟩ := Za0.at_ (t := 3) (off := 1) (k := 1) (Za0.int (by kernel_rfl)) (hel 1 _ rfl) (by rw [hxl]; decide) rfl (by kernel_rfl) rfl
 have q1 : cs.drop 1 = [Iv a1] ++ cs.drop 2 := by rw [Zbu 1 1, e1]
 obtain ⟨a2, e2, k2⟩ := Za0.at_ (t := 3) (off := 2) (k := 1) (Za0.int (by kernel_rfl)) (hel 2 _ rfl) (by rw [hxl]; decide) rfl (by kernel_rfl) rfl
 have q2 : cs.drop 2 = [Iv a2] ++ cs.drop 3 := by rw [Zbu 2 1, e2]
 obtain ⟨a3, e3, k3⟩ := Za0.at_ (t := 26) (off := 3) (k := 32) (Za0.bytes (n := 32) (tb := 5) (by kernel_rfl) (by kernel_rfl) (by kernel_rfl) (by kernel_rfl)) (hel 3 _ rfl) (by rw [hxl]; decide) rfl (by kernel_rfl) rfl
 have q3 : cs.drop 3 = Zad w8 32 a3 ++ cs.drop 35 := by rw [Zbu 3 32, e3]
 obtain ⟨a4, e4, k4⟩ := Za0.at_ (t := 3) (off := 35) (k := 1) (Za0.int (by kernel_rfl)) (hel 4 _ rfl) (by rw [hxl]; decide) rfl (by kernel_rfl) rfl
 have q4 : cs.drop 35 = [Iv a4] ++ cs.drop 36 := by rw [Zbu 35 1, e4]
 have qe : cs.drop 36 = [] := List.drop_of_length_le (by omega)
 refine ⟨⟨a0, a1, a2, a3, a4⟩, ?_, k0, k1, k2, k3, k4, trivial⟩
 rw [List.drop_zero] at q0
 rw [q0, q1, q2, q3, q4, qe]
 simp [Zbf]
def okSigned (a : Signed) : Prop := okHead a.head ∧ (-9223372036854775808 ≤ a.node ∧ a.node ≤ 9223372036854775807) ∧ True ∧ True
theorem Zsd : Za0 Tryd.prog 33 Za okSigned := by
 intro H encH W fuel cs x h
 obtain ⟨xs, n, _, _, hl, hxl, hel⟩ := DataW.trod_struct (P := Tryd.prog) (t := 33) (fs := _) rfl h
 have hl' : cs.length = 69 := hl.trans (by kernel_rfl)
 obtain ⟨a0, e0, k0⟩ := Za0.at_ (t := 28) (off := 0) (k := 36) (Zwc) (hel 0 _ rfl) (by rw [hxl]; decide) rfl (by kernel_rfl) rfl
 have q0 : cs.drop 0 = Zbf a0 ++ cs.drop 36 := by rw [Zbu 0 36, e0]
 obtain ⟨a1, e1, k1⟩ := Za0.at_ (t := 3) (off := 36) (k := 1) (Za0.int (by kernel_rfl)) (hel 1 _ rfl) (by rw [hxl]; decide) rfl (by kernel_rfl) rfl
 have q1 : cs.drop 36 = [Iv a1] ++ cs.drop 37 := by rw [Zbu 36 1, e1]
 obtain ⟨a2, e2, k2⟩ := Za0.at_ (t := 26) (off := 37) (k := 32) (Za0.bytes (n := 32) (tb := 5) (by kernel_rfl) (by kernel_rfl) (by kernel_rfl) (by kernel_rfl)) (hel 2 _ rfl) (by rw [hxl]; decide) rfl (by kernel_rfl) rfl
 have q2 : cs.drop 37 = Zad w8 32 a2 ++ cs.drop 69 := by rw [Zbu 37 32, e2]
 have qe : cs.drop 69 = [] := List.drop_of_length_le (by omega)
 refine ⟨⟨a0, a1, a2⟩, ?_, k0, k1, k2, trivial⟩
 rw [List.drop_zero] at q0
 rw [q0, q1, q2, qe]
 simp [Za]
end Go.Flat
