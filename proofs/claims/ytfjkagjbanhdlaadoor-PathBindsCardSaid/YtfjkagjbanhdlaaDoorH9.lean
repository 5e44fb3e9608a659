/- Walks. -/
import Derived.Test.YtfjkagjbanhdlaaDoorH5
import Derived.Test.YtfjkagjbanhdlaaDoorFlatG
set_option linter.unusedVariables false
set_option linter.unusedSimpArgs false
set_option maxRecDepth 20000
namespace Go.Flat
open Go.Proofs
variable {G : Glob}
def Zew : ByteArray := ⟨#[104, 101, 97, 100, 32]⟩
theorem Zkw : Zew.size = 5 := rfl
theorem Zmf (h : Head) : (Zah h).2 = Za5 h := by
 unfold Zah
 split
 ·rename_i h0; exact h0.symm
 ·rfl
def Znp : List Field → Nat
  | [] => 0
  | f :: l => f.data.size + 4 + Znp l
theorem Zg4 : ∀ (fs : List Field) (last : Int) (acc : Bs), (Z8 fs last acc).1.length ≤ acc.length + Znp fs
 | [], _, acc => by simp [Z8, Znp]
 | f :: fs, last, acc => by
  rw [Z8]
  split
  ·have := Zg4 fs f.tag (acc ++ Zi9 f)
   rw [List.length_append, Zph] at this
   simp only [Znp]; omega
  ·simp
theorem Zux : ∀ (f n a : Nat) (b : D), (Zm0 f n a b).length ≤ 8
 | 0, n, a, b => by rw [Zm0, List.length_drop, Zj9]; omega
 | f + 1, n, a, b => by
  rw [Zm0]
  split
  ·rw [List.length_drop, Zj9]; omega
  ·exact Zux f _ _ _
theorem Zbc (n : Int) : (Zr n).1.size ≤ 8 := by
 unfold Zr
 split
 ·rw [Zay]; exact Zux _ _ _ _
 ·show 0 ≤ 8; omega
theorem Zo6 (h : Head) : (Zah h).1.length ≤ 100 := by
 unfold Zah
 split
 ·have := Zg4 (Zgd 0 (Zhb h)) 0 []
  simp only [Zhb, Zgd, Znp, Zay, Zev, List.length_nil] at this
  have h1 := Zbc h.region
  have h2 := Zbc h.epoch
  have h3 := Zbc h.size
  have h4 := Zbc h.tick
  show (Z8 (Zgd 0 (Zhb h)) 0 []).1.length ≤ 100
  simp only [Zhb, Zgd]
  omega
 ·simp
def Zak (s : Signed) : Bs × Int := if Za5 s.head = 0 ∧ 1 ≤ s.node ∧ s.node ≤ 3 then (Zco [Zn (Zah s.head).1, (Zr s.node).1, Zn (dgL s.tag)], 0) else ([], 70)
def Zk0 (kk : Nat → BitVec 32) (master : D) (h : Head) (node : Int) : Signed × Int :=
  if ((Zah h).2) ≠ 0 then ((⟨(⟨0, 0, 0, dz, 0⟩ : Head), 0, dz⟩ : Signed), ((Zah h).2)) else
  if ((Zbt kk master h.region node).2) ≠ 0 then ((⟨(⟨0, 0, 0, dz, 0⟩ : Head), 0, dz⟩ : Signed), 70) else
  ((⟨h, node, (Zfz kk ((Zbt kk master h.region node).1) (Zew ++ (Zn ((Zah h).1))))⟩ : Signed), 0)
theorem Z3a (kk : Nat → BitVec 32) (hG : G 0 = some (Zac w32 64 kk)) (master : D) (h : Head) (node : Int) : Zae Tryd.prog G 9 [dgV master, Zbp h, Iv node] [] (.tuple #[Z0 (Zk0 kk master h node).1, Iv (Zk0 kk master h node).2]) [] := by
 refine Zbj (fn := Tryd.f9) (nt := 39) rfl rfl rfl rfl ?_
 refine Zaj 5 (H' := [hole, hole, hole, hole, hole]) rfl ?_
 refine Zf (Zg ?_)
 refine Zbr (v := dgV master) (b := dgB master) (nid := 0) (H' := [dgB master, hole, hole, hole, hole]) rfl rfl rfl (by kernel_rfl) (by kernel_rfl) ?_
 refine Zbr (v := Zbp h) (b := bxB 36 (Zav h)) (nid := 1) (H' := [dgB master, bxB 36 (Zav h), hole, hole, hole]) rfl rfl rfl (by kernel_rfl) (by kernel_rfl) ?_
 refine Z7 (b := bxB 69 (Zd (⟨(⟨0, 0, 0, dz, 0⟩ : Head), 0, dz⟩ : Signed))) (nid := 2) (H' := [dgB master, bxB 36 (Zav h), bxB 69 (Zd (⟨(⟨0, 0, 0, dz, 0⟩ : Head), 0, dz⟩ : Signed)), hole, hole]) rfl rfl (by kernel_rfl) (by kernel_rfl) ?_
 refine Zc rfl rfl (Iv 0) rfl (Za (Zb (Zf (Zg ?_))))
 refine Zl (p := pt 1 0) (v := Zbp h) rfl rfl rfl (by kernel_rfl) ?_
 have hpe4 := Zmf h
 have hpl4 := Zo6 h
 refine Z4 (e := []) (nid := 3) (Zwb (G := G) h) (vals := [Zbp h]) (v := .tuple #[slv 3 0 ((Zah h).1.length) ((Zah h).1.length), Iv ((Zah h).2)]) (H' := [dgB master, bxB 36 (Zav h), bxB 69 (Zd (⟨(⟨0, 0, 0, dz, 0⟩ : Head), 0, dz⟩ : Signed)), Zaq ((Zah h).1), hole]) rfl rfl rfl rfl rfl rfl rfl ⟨⟨rfl, trivial⟩, trivial, rfl, rfl, rfl⟩ (by kernel_rfl) (by kernel_rfl) ?_
 refine Ze rfl rfl (.tuple #[slv 3 0 ((Zah h).1.length) ((Zah h).1.length), Iv ((Zah h).2)]) rfl (Zp (vs := #[slv 3 0 ((Zah h).1.length) ((Zah h).1.length), Iv ((Zah h).2)]) (v := slv 3 0 ((Zah h).1.length) ((Zah h).1.length)) rfl rfl rfl rfl (Zp (vs := #[slv 3 0 ((Zah h).1.length) ((Zah h).1.length), Iv ((Zah h).2)]) (v := Iv ((Zah h).2)) rfl rfl rfl rfl (Zc rfl rfl (slv 3 0 ((Zah h).1.length) ((Zah h).1.length)) rfl (Zc rfl rfl (Iv ((Zah h).2)) rfl (Za (Zb (Zf (Zf (Zg (Ze rfl rfl (Iv ((Zah h).2)) rfl ?_))))))))))
 by_cases h1 : ((Zah h).2) ≠ 0
 refine Zk (vx := Iv ((Zah h).2)) (vy := Iv 0) rfl rfl (.bool true) rfl rfl (Zdg (by omega)) ?_
 refine Za (Zb (Zz rfl (Zf (Zg ?_))))
 refine Zbn (vs := []) (v := Z0 (⟨(⟨0, 0, 0, dz, 0⟩ : Head), 0, dz⟩ : Signed)) rfl rfl rfl (by kernel_rfl) ?_
 refine Ze rfl rfl (Iv ((Zah h).2)) rfl ?_
 refine Zx (p := pt 2 0) (v := Z0 (⟨(⟨0, 0, 0, dz, 0⟩ : Head), 0, dz⟩ : Signed)) (b := 2) (blk := bxB 69 (Zd (⟨(⟨0, 0, 0, dz, 0⟩ : Head), 0, dz⟩ : Signed))) (H' := [dgB master, bxB 36 (Zav h), bxB 69 (Zd (⟨(⟨0, 0, 0, dz, 0⟩ : Head), 0, dz⟩ : Signed)), Zaq ((Zah h).1), hole]) rfl rfl rfl (by kernel_rfl) (by kernel_rfl) ?_
 refine Zc rfl rfl (Iv ((Zah h).2)) rfl (Za (Zb (Zt (Z3 (Zu ?_)))))
 rw [show Zk0 kk master h node = ((⟨(⟨0, 0, 0, dz, 0⟩ : Head), 0, dz⟩ : Signed), ((Zah h).2)) from by unfold Zk0; rw [if_pos h1]]
 exact Zm (v := .tuple #[Z0 (⟨(⟨0, 0, 0, dz, 0⟩ : Head), 0, dz⟩ : Signed), Iv ((Zah h).2)]) (by kernel_rfl) rfl rfl (by kernel_rfl) ⟨(Zhe (by kernel_rfl) rfl), rfl, trivial⟩
 refine Zk (vx := Iv ((Zah h).2)) (vy := Iv 0) rfl rfl (.bool false) rfl rfl (Zc5 (by omega)) ?_
 refine Za (Zb (Zv rfl (Z2 (Zb (Zf (Zg ?_))))))
 refine Zl (p := pt 0 0) (v := dgV master) rfl rfl rfl (by kernel_rfl) ?_
 refine Zi (b := 1) (o := 0) (n := 0) (o' := 0) rfl rfl rfl rfl rfl ?_
 refine Zl (p := pt 1 0) (v := Iv h.region) rfl rfl rfl (by kernel_rfl) ?_
 refine Ze rfl rfl (Iv node) rfl ?_
 refine Zq (Z0u (G := G) kk hG master h.region node) (vals := [dgV master, Iv h.region, Iv node]) (res' := .tuple #[dgV ((Zbt kk master h.region node).1), Iv ((Zbt kk master h.region node).2)]) rfl rfl rfl rfl rfl (by kernel_rfl) ?_
 refine Ze rfl rfl (.tuple #[dgV ((Zbt kk master h.region node).1), Iv ((Zbt kk master h.region node).2)]) rfl (Zp (vs := #[dgV ((Zbt kk master h.region node).1), Iv ((Zbt kk master h.region node).2)]) (v := dgV ((Zbt kk master h.region node).1)) rfl rfl rfl rfl (Zp (vs := #[dgV ((Zbt kk master h.region node).1), Iv ((Zbt kk master h.region node).2)]) (v := Iv ((Zbt kk master h.region node).2)) rfl rfl rfl rfl ?_))
 refine Z7 (b := dgB dz) (nid := 4) (H' := [dgB master, bxB 36 (Zav h), bxB 69 (Zd (⟨(⟨0, 0, 0, dz, 0⟩ : Head), 0, dz⟩ : Signed)), Zaq ((Zah h).1), dgB dz]) rfl rfl (by kernel_rfl) (by kernel_rfl) ?_
 refine Zx (p := pt 4 0) (v := dgV ((Zbt kk master h.region node).1)) (b := 4) (blk := dgB ((Zbt kk master h.region node).1)) (H' := [dgB master, bxB 36 (Zav h), bxB 69 (Zd (⟨(⟨0, 0, 0, dz, 0⟩ : Head), 0, dz⟩ : Signed)), Zaq ((Zah h).1), dgB ((Zbt kk master h.region node).1)]) rfl rfl rfl (by kernel_rfl) (by kernel_rfl) ?_
 refine Zc rfl rfl (Iv ((Zbt kk master h.region node).2)) rfl (Za (Zb (Zf (Zf (Zg (Ze rfl rfl (Iv ((Zbt kk master h.region node).2)) rfl ?_))))))
 by_cases h2 : ((Zbt kk master h.region node).2) ≠ 0
 refine Zk (vx := Iv ((Zbt kk master h.region node).2)) (vy := Iv 0) rfl rfl (.bool true) rfl rfl (Zdg (by omega)) ?_
 refine Za (Zb (Zz rfl (Zf (Zg ?_))))
 refine Zbn (vs := []) (v := Z0 (⟨(⟨0, 0, 0, dz, 0⟩ : Head), 0, dz⟩ : Signed)) rfl rfl rfl (by kernel_rfl) ?_
 refine Zx (p := pt 2 0) (v := Z0 (⟨(⟨0, 0, 0, dz, 0⟩ : Head), 0, dz⟩ : Signed)) (b := 2) (blk := bxB 69 (Zd (⟨(⟨0, 0, 0, dz, 0⟩ : Head), 0, dz⟩ : Signed))) (H' := [dgB master, bxB 36 (Zav h), bxB 69 (Zd (⟨(⟨0, 0, 0, dz, 0⟩ : Head), 0, dz⟩ : Signed)), Zaq ((Zah h).1), dgB ((Zbt kk master h.region node).1)]) rfl rfl rfl (by kernel_rfl) (by kernel_rfl) ?_
 refine Zc rfl rfl (Iv 70) rfl (Za (Zb (Zt (Z3 (Zu ?_)))))
 rw [show Zk0 kk master h node = ((⟨(⟨0, 0, 0, dz, 0⟩ : Head), 0, dz⟩ : Signed), 70) from by unfold Zk0; rw [if_neg h1, if_pos h2]]
 exact Zm (v := .tuple #[Z0 (⟨(⟨0, 0, 0, dz, 0⟩ : Head), 0, dz⟩ : Signed), Iv 70]) (by kernel_rfl) rfl rfl (by kernel_rfl) ⟨(Zhe (by kernel_rfl) rfl), rfl, trivial⟩
 refine Zk (vx := Iv ((Zbt kk master h.region node).2)) (vy := Iv 0) rfl rfl (.bool false) rfl rfl (Zc5 (by omega)) ?_
 refine Za (Zb (Zv rfl (Z2 (Zb (Zf ?_)))))
 refine Zmz (by kernel_rfl) ?_
 refine Zl (p := pt 1 0) (v := Zbp h) rfl rfl rfl (by kernel_rfl) ?_
 refine Ze rfl rfl (Iv node) rfl ?_
 refine Zl (p := pt 4 0) (v := dgV ((Zbt kk master h.region node).1)) rfl rfl rfl (by kernel_rfl) ?_
 refine Ze rfl rfl (slv 3 0 ((Zah h).1.length) ((Zah h).1.length)) rfl ?_
 refine Zfm (p := slv 3 0 ((Zah h).1.length) ((Zah h).1.length)) (v := .string (Zn ((Zah h).1))) rfl rfl rfl (Zfl rfl rfl rfl rfl rfl (by omega)) ?_
 refine Zk (vx := .string Zew) (vy := .string (Zn ((Zah h).1))) rfl rfl (.string (Zew ++ (Zn ((Zah h).1)))) rfl rfl (Zkr (by simp only [ByteArray.size_append, Zay, Zhk, Zev, Zkw]; omega)) ?_
 refine Zq (Zvo (G := G) kk hG ((Zbt kk master h.region node).1) (Zew ++ (Zn ((Zah h).1))) (by simp only [ByteArray.size_append, Zay, Zkw]; omega)) (vals := [dgV ((Zbt kk master h.region node).1), .string (Zew ++ (Zn ((Zah h).1)))]) (res' := dgV (Zfz kk ((Zbt kk master h.region node).1) (Zew ++ (Zn ((Zah h).1))))) rfl rfl rfl rfl rfl (by kernel_rfl) ?_
 refine Zbn (vs := [(0, Zbp h), (1, Iv node), (2, dgV (Zfz kk ((Zbt kk master h.region node).1) (Zew ++ (Zn ((Zah h).1)))))]) (v := Z0 (⟨h, node, (Zfz kk ((Zbt kk master h.region node).1) (Zew ++ (Zn ((Zah h).1))))⟩ : Signed)) rfl rfl rfl (by kernel_rfl) ?_
 refine Zx (p := pt 2 0) (v := Z0 (⟨h, node, (Zfz kk ((Zbt kk master h.region node).1) (Zew ++ (Zn ((Zah h).1))))⟩ : Signed)) (b := 2) (blk := bxB 69 (Zd (⟨h, node, (Zfz kk ((Zbt kk master h.region node).1) (Zew ++ (Zn ((Zah h).1))))⟩ : Signed))) (H' := [dgB master, bxB 36 (Zav h), bxB 69 (Zd (⟨h, node, (Zfz kk ((Zbt kk master h.region node).1) (Zew ++ (Zn ((Zah h).1))))⟩ : Signed)), Zaq ((Zah h).1), dgB ((Zbt kk master h.region node).1)]) rfl rfl rfl (by kernel_rfl) (by kernel_rfl) ?_
 refine Zc rfl rfl (Iv 0) rfl ?_
 refine Zkm (by kernel_rfl) ?_
 refine Zb (Zt (Zu ?_))
 rw [show Zk0 kk master h node = ((⟨h, node, (Zfz kk ((Zbt kk master h.region node).1) (Zew ++ (Zn ((Zah h).1))))⟩ : Signed), 0) from by unfold Zk0; rw [if_neg h1, if_neg h2]]
 exact Zm (v := .tuple #[Z0 (⟨h, node, (Zfz kk ((Zbt kk master h.region node).1) (Zew ++ (Zn ((Zah h).1))))⟩ : Signed), Iv 0]) (by kernel_rfl) rfl rfl (by kernel_rfl) ⟨(Zhe (by kernel_rfl) rfl), rfl, trivial⟩
def Zfx (kk : Nat → BitVec 32) (master : D) (s : Signed) : Int :=
  if ((Zah s.head).2) ≠ 0 then 70 else
  if 1 ≤ s.node then (if s.node ≤ 3 then (Zf4 kk master s.head.region s.node (Zew ++ (Zn ((Zah s.head).1))) s.tag) else
  70) else
  70
theorem Zyi (kk : Nat → BitVec 32) (hG : G 0 = some (Zac w32 64 kk)) (master : D) (s : Signed) : Zae Tryd.prog G 47 [dgV master, Z0 s] [] (Iv (Zfx kk master s)) [] := by
 refine Zbj (fn := Tryd.f47) (nt := 33) rfl rfl rfl rfl ?_
 refine Zaj 3 (H' := [hole, hole, hole]) rfl ?_
 refine Zf (Zg ?_)
 refine Zbr (v := dgV master) (b := dgB master) (nid := 0) (H' := [dgB master, hole, hole]) rfl rfl rfl (by kernel_rfl) (by kernel_rfl) ?_
 refine Zbr (v := Z0 s) (b := bxB 69 (Zd s)) (nid := 1) (H' := [dgB master, bxB 69 (Zd s), hole]) rfl rfl rfl (by kernel_rfl) (by kernel_rfl) ?_
 refine Zc rfl rfl (Iv 0) rfl (Za (Zb (Zf (Zg ?_))))
 refine Zi (b := 1) (o := 0) (n := 0) (o' := 0) rfl rfl rfl rfl rfl ?_
 refine Zl (p := pt 1 0) (v := Zbp s.head) rfl rfl rfl (by kernel_rfl) ?_
 have hpe3 := Zmf s.head
 have hpl3 := Zo6 s.head
 refine Z4 (e := []) (nid := 2) (Zwb (G := G) s.head) (vals := [Zbp s.head]) (v := .tuple #[slv 2 0 ((Zah s.head).1.length) ((Zah s.head).1.length), Iv ((Zah s.head).2)]) (H' := [dgB master, bxB 69 (Zd s), Zaq ((Zah s.head).1)]) rfl rfl rfl rfl rfl rfl rfl ⟨⟨rfl, trivial⟩, trivial, rfl, rfl, rfl⟩ (by kernel_rfl) (by kernel_rfl) ?_
 refine Ze rfl rfl (.tuple #[slv 2 0 ((Zah s.head).1.length) ((Zah s.head).1.length), Iv ((Zah s.head).2)]) rfl (Zp (vs := #[slv 2 0 ((Zah s.head).1.length) ((Zah s.head).1.length), Iv ((Zah s.head).2)]) (v := slv 2 0 ((Zah s.head).1.length) ((Zah s.head).1.length)) rfl rfl rfl rfl (Zp (vs := #[slv 2 0 ((Zah s.head).1.length) ((Zah s.head).1.length), Iv ((Zah s.head).2)]) (v := Iv ((Zah s.head).2)) rfl rfl rfl rfl (Zc rfl rfl (slv 2 0 ((Zah s.head).1.length) ((Zah s.head).1.length)) rfl (Zc rfl rfl (Iv ((Zah s.head).2)) rfl (Za (Zb (Zf (Zf (Zg (Ze rfl rfl (Iv ((Zah s.head).2)) rfl ?_))))))))))
 by_cases h1 : ((Zah s.head).2) ≠ 0
 refine Zk (vx := Iv ((Zah s.head).2)) (vy := Iv 0) rfl rfl (.bool true) rfl rfl (Zdg (by omega)) ?_
 refine Ze rfl rfl (.bool true) rfl (Zj rfl rfl (Zj rfl rfl (Zj rfl rfl (Zj rfl rfl (Zo rfl rfl (.bool true) rfl (Za (Zb (Zz rfl (Zf (Zg (Zc rfl rfl (Iv 70) rfl (Za (Zb (Zt (Z3 (Zu ?_))))))))))))))))
 rw [show Zfx kk master s = 70 from by unfold Zfx; rw [if_pos h1]]
 exact Zm (v := Iv 70) rfl rfl rfl (by kernel_rfl) rfl
 refine Zk (vx := Iv ((Zah s.head).2)) (vy := Iv 0) rfl rfl (.bool false) rfl rfl (Zc5 (by omega)) ?_
 refine Ze rfl rfl (.bool false) rfl ?_
 refine Zi (b := 1) (o := 0) (n := 36) (o' := 36) rfl rfl rfl rfl rfl ?_
 refine Zl (p := pt 1 36) (v := Iv s.node) rfl rfl rfl (by kernel_rfl) ?_
 by_cases h2 : 1 ≤ s.node
 by_cases h3 : s.node ≤ 3
 refine Zq ((Zca (G := G) s.node 1 3).res (congrArg Value.bool (Zb9 (by omega) (by omega)))) (vals := [Iv s.node, Iv 1, Iv 3]) (res' := .bool true) rfl rfl rfl rfl rfl rfl ?_
 refine Zha (vx := .bool true) rfl rfl (.bool false) rfl Zd0 ?_
 refine Zo rfl rfl (.bool false) rfl (Za (Zb (Zv rfl (Z2 (Zb (Zf (Zg ?_)))))))
 refine Zl (p := pt 0 0) (v := dgV master) rfl rfl rfl (by kernel_rfl) ?_
 refine Zi (b := 1) (o := 0) (n := 0) (o' := 0) rfl rfl rfl rfl rfl ?_
 refine Zi (b := 1) (o := 0) (n := 0) (o' := 0) rfl rfl rfl rfl rfl ?_
 refine Zl (p := pt 1 0) (v := Iv s.head.region) rfl rfl rfl (by kernel_rfl) ?_
 refine Zi (b := 1) (o := 0) (n := 36) (o' := 36) rfl rfl rfl rfl rfl ?_
 refine Zl (p := pt 1 36) (v := Iv s.node) rfl rfl rfl (by kernel_rfl) ?_
 refine Ze rfl rfl (slv 2 0 ((Zah s.head).1.length) ((Zah s.head).1.length)) rfl ?_
 refine Zfm (p := slv 2 0 ((Zah s.head).1.length) ((Zah s.head).1.length)) (v := .string (Zn ((Zah s.head).1))) rfl rfl rfl (Zfl rfl rfl rfl rfl rfl (by omega)) ?_
 refine Zk (vx := .string Zew) (vy := .string (Zn ((Zah s.head).1))) rfl rfl (.string (Zew ++ (Zn ((Zah s.head).1)))) rfl rfl (Zkr (by simp only [ByteArray.size_append, Zay, Zhk, Zev, Zkw]; omega)) ?_
 refine Zi (b := 1) (o := 0) (n := 37) (o' := 37) rfl rfl rfl rfl rfl ?_
 refine Zl (p := pt 1 37) (v := dgV s.tag) rfl rfl rfl (by kernel_rfl) ?_
 refine Zq (Z0r (G := G) kk hG master s.head.region s.node (Zew ++ (Zn ((Zah s.head).1))) s.tag (by simp only [ByteArray.size_append, Zay, Zkw]; omega)) (vals := [dgV master, Iv s.head.region, Iv s.node, .string (Zew ++ (Zn ((Zah s.head).1))), dgV s.tag]) (res' := Iv (Zf4 kk master s.head.region s.node (Zew ++ (Zn ((Zah s.head).1))) s.tag)) rfl rfl rfl rfl rfl rfl ?_
 refine Zc rfl rfl (Iv (Zf4 kk master s.head.region s.node (Zew ++ (Zn ((Zah s.head).1))) s.tag)) rfl (Za (Zb (Zt (Zu ?_))))
 rw [show Zfx kk master s = (Zf4 kk master s.head.region s.node (Zew ++ (Zn ((Zah s.head).1))) s.tag) from by unfold Zfx; rw [if_neg h1, if_pos h2, if_pos h3]]
 exact Zm (v := Iv (Zf4 kk master s.head.region s.node (Zew ++ (Zn ((Zah s.head).1))) s.tag)) rfl rfl rfl (by kernel_rfl) rfl
 refine Zq ((Zca (G := G) s.node 1 3).res (congrArg Value.bool (Zap (by omega)))) (vals := [Iv s.node, Iv 1, Iv 3]) (res' := .bool false) rfl rfl rfl rfl rfl rfl ?_
 refine Zha (vx := .bool false) rfl rfl (.bool true) rfl Zd0 ?_
 refine Zo rfl rfl (.bool true) rfl (Za (Zb (Zz rfl (Zf (Zg (Zc rfl rfl (Iv 70) rfl (Za (Zb (Zt (Z3 (Zu ?_)))))))))))
 rw [show Zfx kk master s = 70 from by unfold Zfx; rw [if_neg h1, if_pos h2, if_neg h3]]
 exact Zm (v := Iv 70) rfl rfl rfl (by kernel_rfl) rfl
 refine Zq ((Zca (G := G) s.node 1 3).res (congrArg Value.bool (Zap (by omega)))) (vals := [Iv s.node, Iv 1, Iv 3]) (res' := .bool false) rfl rfl rfl rfl rfl rfl ?_
 refine Zha (vx := .bool false) rfl rfl (.bool true) rfl Zd0 ?_
 refine Zo rfl rfl (.bool true) rfl (Za (Zb (Zz rfl (Zf (Zg (Zc rfl rfl (Iv 70) rfl (Za (Zb (Zt (Z3 (Zu ?_)))))))))))
 rw [show Zfx kk master s = 70 from by unfold Zfx; rw [if_neg h1, if_neg h2]]
 exact Zm (v := Iv 70) rfl rfl rfl (by kernel_rfl) rfl
theorem Zmv (s : Signed) : Zae Tryd.prog G 27 [Z0 s] [] (.tuple #[slv 0 0 (Zak s).1.length (Zak s).1.length, Iv (Zak s).2]) [Zaq (Zak s).1] := by
  refine Zbj (fn := Tryd.f27) (nt := 32) rfl rfl rfl rfl ?_
  refine Zaj 5 (H' := [hole, hole, hole, hole, hole]) rfl ?_
  refine Zf (Zg ?_)
  refine Zbr (v := Z0 s) (b := bxB 69 (Zd s)) (nid := 0) (H' := [bxB 69 (Zd s), hole, hole, hole, hole]) rfl rfl rfl (by kernel_rfl) (by kernel_rfl) ?_
  refine Zc rfl rfl (.slice none 0 0) rfl (Zc rfl rfl (Iv 0) rfl (Za (Zb (Zf (Zg ?_)))))
  refine Zi (b := 0) (o := 0) (n := 0) (o' := 0) rfl rfl rfl rfl rfl ?_
  refine Zl (p := pt 0 0) (v := Zbp s.head) rfl rfl rfl (by kernel_rfl) ?_
  have hpe6 := Zmf s.head
  have hpl6 := Zo6 s.head
  refine Z4 (e := []) (nid := 1) (Zwb (G := G) s.head) (vals := [Zbp s.head]) (v := .tuple #[slv 1 0 ((Zah s.head).1.length) ((Zah s.head).1.length), Iv ((Zah s.head).2)]) (H' := [bxB 69 (Zd s), Zaq ((Zah s.head).1), hole, hole, hole]) rfl rfl rfl rfl rfl rfl rfl ⟨⟨rfl, trivial⟩, trivial, rfl, rfl, rfl⟩ (by kernel_rfl) (by kernel_rfl) ?_
  refine Ze rfl rfl (.tuple #[slv 1 0 ((Zah s.head).1.length) ((Zah s.head).1.length), Iv ((Zah s.head).2)]) rfl (Zp (vs := #[slv 1 0 ((Zah s.head).1.length) ((Zah s.head).1.length), Iv ((Zah s.head).2)]) (v := slv 1 0 ((Zah s.head).1.length) ((Zah s.head).1.length)) rfl rfl rfl rfl (Zp (vs := #[slv 1 0 ((Zah s.head).1.length) ((Zah s.head).1.length), Iv ((Zah s.head).2)]) (v := Iv ((Zah s.head).2)) rfl rfl rfl rfl (Zc rfl rfl (slv 1 0 ((Zah s.head).1.length) ((Zah s.head).1.length)) rfl (Zc rfl rfl (Iv ((Zah s.head).2)) rfl (Za (Zb (Zf (Zf (Zg (Ze rfl rfl (Iv ((Zah s.head).2)) rfl ?_))))))))))
  by_cases h1 : ((Zah s.head).2) ≠ 0
  refine Zk (vx := Iv ((Zah s.head).2)) (vy := Iv 0) rfl rfl (.bool true) rfl rfl (Zdg (by omega)) ?_
  refine Ze rfl rfl (.bool true) rfl (Zj rfl rfl (Zj rfl rfl (Zj rfl rfl (Zj rfl rfl (Zo rfl rfl (.bool true) rfl (Za (Zb (Zz rfl (Zf (Zg (Zc rfl rfl (.slice none 0 0) rfl (Zc rfl rfl (Iv 70) rfl (Za (Zb ?_))))))))))))))
  refine Zb4 (Zbz.nilTmp (i := 2) (b := 2) true 1 rfl (by decide) rfl) ?_
  refine Zt (Z3 (Zu ?_))
  rw [show Zak s = ([], 70) from if_neg (by omega)]
  exact Za7 [2] (v := .tuple #[slv 2 0 0 0, Iv 70]) rfl (by kernel_rfl) rfl rfl (by decide) (by simp [Za9, Zaq]) ⟨⟨rfl, rfl, rfl, by first | omega | exact Nat.le_refl _ | exact Nat.zero_le _ | (dsimp only; omega), by first | omega | exact Nat.le_refl _ | exact Nat.zero_le _ | (dsimp only; omega)⟩, rfl, trivial⟩
  refine Zk (vx := Iv ((Zah s.head).2)) (vy := Iv 0) rfl rfl (.bool false) rfl rfl (Zc5 (by omega)) ?_
  refine Ze rfl rfl (.bool false) rfl ?_
  refine Zi (b := 0) (o := 0) (n := 36) (o' := 36) rfl rfl rfl rfl rfl ?_
  refine Zl (p := pt 0 36) (v := Iv s.node) rfl rfl rfl (by kernel_rfl) ?_
  by_cases h2 : 1 ≤ s.node
  by_cases h3 : s.node ≤ 3
  refine Zq ((Zca (G := G) s.node 1 3).res (congrArg Value.bool (Zb9 (by omega) (by omega)))) (vals := [Iv s.node, Iv 1, Iv 3]) (res' := .bool true) rfl rfl rfl rfl rfl rfl ?_
  refine Zha (vx := .bool true) rfl rfl (.bool false) rfl Zd0 ?_
  refine Zo rfl rfl (.bool false) rfl (Za (Zb (Zv rfl (Z2 (Zb (Zf (Zg ?_)))))))
  refine Z7 (b := rfB (.slice none 0 0)) (nid := 2) (H' := [bxB 69 (Zd s), Zaq ((Zah s.head).1), rfB (.slice none 0 0), hole, hole]) rfl rfl (by kernel_rfl) (by kernel_rfl) ?_
  refine Za (Zb (Zf ?_))
  refine Zb4 (Zbz.nilCell (k := 2) (j := 0) (b := 3) true 1 rfl (by decide) rfl (by show 0 < 1; decide) rfl rfl) ?_
  refine Zg (Ze rfl rfl (slv 1 0 ((Zah s.head).1.length) ((Zah s.head).1.length)) rfl ?_)
  refine Zfm (p := slv 1 0 ((Zah s.head).1.length) ((Zah s.head).1.length)) (v := .string (Zn ((Zah s.head).1))) rfl rfl rfl (Zfl rfl rfl rfl rfl rfl (by omega)) ?_
  refine Zct (e := [some (2, 0), some (3, 0)]) (nid := 0) (Zpa (G := G) [] 0 (Zn ((Zah s.head).1)) rfl (by omega)) (vals := [pt 2 0, .string (Zn ((Zah s.head).1))]) (v := .tuple #[]) (H' := [bxB 69 (Zd s), Zaq ((Zah s.head).1), rfB (slv 3 0 1 1), txB ([] ++ [(Zn ((Zah s.head).1))]), hole]) rfl rfl rfl rfl rfl rfl ⟨⟨⟨rfl, rfl⟩, rfl, trivial⟩, ⟨(Zau rfl rfl rfl rfl), (Zau rfl rfl rfl rfl), trivial⟩, rfl, rfl, rfl, Nat.le_refl _⟩ (by kernel_rfl) rfl (by kernel_rfl) ?_
  refine Za (Zb (Zf (Zg ?_)))
  refine Zi (b := 0) (o := 0) (n := 36) (o' := 36) rfl rfl rfl rfl rfl ?_
  refine Zl (p := pt 0 36) (v := Iv s.node) rfl rfl rfl (by kernel_rfl) ?_
  refine Zct (e := [some (2, 0), some (3, 0)]) (nid := 0) (Zj6 (G := G) ([] ++ [(Zn ((Zah s.head).1))]) 1 s.node rfl (by omega) (by omega) (by omega)) (vals := [pt 2 0, Iv s.node]) (v := .tuple #[]) (H' := [bxB 69 (Zd s), Zaq ((Zah s.head).1), rfB (slv 3 0 2 2), txB (([] ++ [(Zn ((Zah s.head).1))]) ++ [(Zr s.node).1]), hole]) rfl rfl rfl rfl rfl rfl ⟨⟨⟨rfl, rfl⟩, rfl, trivial⟩, ⟨(Zau rfl rfl rfl rfl), (Zau rfl rfl rfl rfl), trivial⟩, rfl, rfl, rfl, Nat.le_refl _⟩ (by kernel_rfl) rfl (by kernel_rfl) ?_
  refine Za (Zb (Zf (Zg ?_)))
  refine Zi (b := 0) (o := 0) (n := 37) (o' := 37) rfl rfl rfl rfl rfl ?_
  refine Zdd (p := pt 0 37) (vl := none) (vh := none) (v := slv 0 37 32 32) rfl rfl rfl rfl rfl rfl ?_
  refine Zfm (p := slv 0 37 32 32) (v := .string (Zn (dgL s.tag))) rfl rfl rfl (Zd9 (l := (dgL s.tag)) rfl rfl rfl rfl (of_decide_eq_true (by kernel_rfl)) (by kernel_rfl)) ?_
  refine Zct (e := [some (2, 0), some (3, 0)]) (nid := 0) (Zpa (G := G) (([] ++ [(Zn ((Zah s.head).1))]) ++ [(Zr s.node).1]) 2 (Zn (dgL s.tag)) rfl (by omega)) (vals := [pt 2 0, .string (Zn (dgL s.tag))]) (v := .tuple #[]) (H' := [bxB 69 (Zd s), Zaq ((Zah s.head).1), rfB (slv 3 0 3 3), txB ((([] ++ [(Zn ((Zah s.head).1))]) ++ [(Zr s.node).1]) ++ [(Zn (dgL s.tag))]), hole]) rfl rfl rfl rfl rfl rfl ⟨⟨⟨rfl, rfl⟩, rfl, trivial⟩, ⟨(Zau rfl rfl rfl rfl), (Zau rfl rfl rfl rfl), trivial⟩, rfl, rfl, rfl, Nat.le_refl _⟩ (by kernel_rfl) rfl (by kernel_rfl) ?_
  refine Za (Zb (Zf (Zg ?_)))
  refine Zct (e := [some (2, 0), some (3, 0)]) (nid := 4) (Zue (G := G) ((([] ++ [(Zn ((Zah s.head).1))]) ++ [(Zr s.node).1]) ++ [(Zn (dgL s.tag))]) 3 rfl (by omega)) (vals := [pt 2 0]) (v := slv 4 0 ((Zco ((([] ++ [(Zn ((Zah s.head).1))]) ++ [(Zr s.node).1]) ++ [(Zn (dgL s.tag))])).length) ((Zco ((([] ++ [(Zn ((Zah s.head).1))]) ++ [(Zr s.node).1]) ++ [(Zn (dgL s.tag))])).length)) (H' := [bxB 69 (Zd s), Zaq ((Zah s.head).1), rfB (slv 3 0 3 3), txB ((([] ++ [(Zn ((Zah s.head).1))]) ++ [(Zr s.node).1]) ++ [(Zn (dgL s.tag))]), Zaq (Zco ((([] ++ [(Zn ((Zah s.head).1))]) ++ [(Zr s.node).1]) ++ [(Zn (dgL s.tag))]))]) rfl rfl rfl rfl rfl rfl ⟨⟨⟨rfl, rfl⟩, trivial⟩, ⟨(Zau rfl rfl rfl rfl), (Zau rfl rfl rfl rfl), trivial⟩, rfl, rfl, rfl, Nat.le_refl _⟩ rfl rfl (by kernel_rfl) ?_
  refine Zc rfl rfl (slv 4 0 ((Zco ((([] ++ [(Zn ((Zah s.head).1))]) ++ [(Zr s.node).1]) ++ [(Zn (dgL s.tag))])).length) ((Zco ((([] ++ [(Zn ((Zah s.head).1))]) ++ [(Zr s.node).1]) ++ [(Zn (dgL s.tag))])).length)) rfl ?_
  refine Zc rfl rfl (Iv 0) rfl (Za (Zb (Zt (Zu ?_))))
  rw [show Zak s = ((Zco ((([] ++ [(Zn ((Zah s.head).1))]) ++ [(Zr s.node).1]) ++ [(Zn (dgL s.tag))])), 0) from if_pos (by omega)]
  exact Za7 [4] (v := .tuple #[slv 4 0 ((Zco ((([] ++ [(Zn ((Zah s.head).1))]) ++ [(Zr s.node).1]) ++ [(Zn (dgL s.tag))])).length) ((Zco ((([] ++ [(Zn ((Zah s.head).1))]) ++ [(Zr s.node).1]) ++ [(Zn (dgL s.tag))])).length), Iv 0]) rfl (by kernel_rfl) rfl rfl (by decide) (by simp [Za9, Zaq]) ⟨⟨rfl, rfl, rfl, by first | omega | exact Nat.le_refl _ | exact Nat.zero_le _ | (dsimp only; omega), by first | omega | exact Nat.le_refl _ | exact Nat.zero_le _ | (dsimp only; omega)⟩, rfl, trivial⟩
  refine Zq ((Zca (G := G) s.node 1 3).res (congrArg Value.bool (Zap (by omega)))) (vals := [Iv s.node, Iv 1, Iv 3]) (res' := .bool false) rfl rfl rfl rfl rfl rfl ?_
  refine Zha (vx := .bool false) rfl rfl (.bool true) rfl Zd0 ?_
  refine Zo rfl rfl (.bool true) rfl (Za (Zb (Zz rfl (Zf (Zg (Zc rfl rfl (.slice none 0 0) rfl (Zc rfl rfl (Iv 70) rfl (Za (Zb ?_)))))))))
  refine Zb4 (Zbz.nilTmp (i := 2) (b := 2) true 1 rfl (by decide) rfl) ?_
  refine Zt (Z3 (Zu ?_))
  rw [show Zak s = ([], 70) from if_neg (by omega)]
  exact Za7 [2] (v := .tuple #[slv 2 0 0 0, Iv 70]) rfl (by kernel_rfl) rfl rfl (by decide) (by simp [Za9, Zaq]) ⟨⟨rfl, rfl, rfl, by first | omega | exact Nat.le_refl _ | exact Nat.zero_le _ | (dsimp only; omega), by first | omega | exact Nat.le_refl _ | exact Nat.zero_le _ | (dsimp only; omega)⟩, rfl, trivial⟩
  refine Zq ((Zca (G := G) s.node 1 3).res (congrArg Value.bool (Zap (by omega)))) (vals := [Iv s.node, Iv 1, Iv 3]) (res' := .bool false) rfl rfl rfl rfl rfl rfl ?_
  refine Zha (vx := .bool false) rfl rfl (.bool true) rfl Zd0 ?_
  refine Zo rfl rfl (.bool true) rfl (Za (Zb (Zz rfl (Zf (Zg (Zc rfl rfl (.slice none 0 0) rfl (Zc rfl rfl (Iv 70) rfl (Za (Zb ?_)))))))))
  refine Zb4 (Zbz.nilTmp (i := 2) (b := 2) true 1 rfl (by decide) rfl) ?_
  refine Zt (Z3 (Zu ?_))
  rw [show Zak s = ([], 70) from if_neg (by omega)]
  exact Za7 [2] (v := .tuple #[slv 2 0 0 0, Iv 70]) rfl (by kernel_rfl) rfl rfl (by decide) (by simp [Za9, Zaq]) ⟨⟨rfl, rfl, rfl, by first | omega | exact Nat.le_refl _ | exact Nat.zero_le _ | (dsimp only; omega), by first | omega | exact Nat.le_refl _ | exact Nat.zero_le _ | (dsimp only; omega)⟩, rfl, trivial⟩
end Go.Flat
namespace Go.Flat
open Go.Proofs
variable {G : Glob}
def beL : Nat → Nat → Bs → Bs
  | 0, _, l => l
  | f + 1, n, l => if n = 0 then l else beL f (n / 256) (BitVec.ofInt 8 (n : Int) :: l)
def Z3n : Nat → List ByteArray → Bs
  | _, [] => []
  | k, x :: l => Zi9 ⟨(k : Int) + 1, x⟩ ++ Z3n (k + 1) l
theorem Zx8 {f : Field} {last : Int} (h1 : last < f.tag) (h2 : f.tag ≤ 255) (h3 : f.data.size ≤ 65536) : Ze9 f last = 0 := by
 unfold Ze9
 rw [if_neg (by omega), if_neg (by omega), if_neg (by omega)]
theorem Znl : ∀ (ls : List ByteArray) (k : Nat) (acc : Bs), k + ls.length ≤ 255 → (∀ x, x ∈ ls → x.size ≤ 65536) → Z8 (Zgd k ls) (k : Nat) acc = (acc ++ Z3n k ls, 0)
 | [], k, acc, _, _ => by simp [Z8, Zgd, Z3n]
 | x :: l, k, acc, h, hs => by
  simp only [List.length_cons] at h
  rw [Zgd, Z8, if_pos (Zx8 (by dsimp only; omega) (by dsimp only; omega) (hs x (by simp))), Z3n]
  have := Znl l (k + 1) (acc ++ Zi9 ⟨(k : Int) + 1, x⟩) (by omega) (fun y hy => hs y (by simp [hy]))
  rw [show ((k + 1 : Nat) : Int) = (k : Int) + 1 by omega] at this
  rw [this, List.append_assoc]
end Go.Flat
namespace Go.Flat
open Go.Proofs
variable {G : Glob}
theorem Zmc {h : Head} (hr : Zf3 h) : Zah h = (Zco (Zhb h), 0) := by
 unfold Zah
 rw [if_pos (by rw [Zf1, if_pos hr])]
theorem Zwl (h : Head) : (Zco (Zhb h)).length ≤ 100 := by
 have := Zg4 (Zgd 0 (Zhb h)) 0 []
 simp only [Zhb, Zgd, Znp, Zay, Zev, List.length_nil] at this
 have h1 := Zbc h.region
 have h2 := Zbc h.epoch
 have h3 := Zbc h.size
 have h4 := Zbc h.tick
 show (Z8 (Zgd 0 (Zhb h)) 0 []).1.length ≤ 100
 simp only [Zhb, Zgd]
 omega
def Zmr (s : Signed) : List ByteArray := [Zn (Zco (Zhb s.head)), (Zr s.node).1, Zn (dgL s.tag)]
def Zj3 (s : Signed) : Prop := Zf3 s.head ∧ 1 ≤ s.node ∧ s.node ≤ 3
instance (s : Signed) : Decidable (Zj3 s) := inferInstanceAs (Decidable (_ ∧ _))
theorem Zrj {s : Signed} (h : Zj3 s) : Zak s = (Zco (Zmr s), 0) := by
 unfold Zak
 rw [if_pos ⟨by rw [Zf1, if_pos h.1], h.2⟩, Zmc h.1]
 try rfl
theorem Zrg {s : Signed} (h : ¬ Zj3 s) : Zak s = ([], 70) := by
 unfold Zak
 rw [if_neg]
 rintro ⟨h1, h2⟩
 refine h ⟨?_, h2⟩
 rw [Zf1] at h1
 split at h1
 ·assumption
 ·omega
def Zy3 (kk : Nat → BitVec 32) (master : D) (h : Head) (node : Int) : D := Zfz kk (Zfz kk master (Zn [75#8, BitVec.ofInt 8 h.region, BitVec.ofInt 8 node])) (Zew ++ Zn (Zco (Zhb h)))
def Z35 : Signed := ⟨⟨0, 0, 0, dz, 0⟩, 0, dz⟩
def Z5 (kk : Nat → BitVec 32) (master : D) (h : Head) (node : Int) : Signed × Int := if Zf3 h ∧ 1 ≤ node ∧ node ≤ 3 then (⟨h, node, Zy3 kk master h node⟩, 0) else (Z35, 70)
def Zb6 (kk : Nat → BitVec 32) (master : D) (s : Signed) : Int := if Zj3 s then (if Za6 32 (Zy3 kk master s.head s.node) s.tag = true then 0 else 72) else 70
end Go.Flat
namespace Go.Flat
open Go.Proofs Go.ChangeShapes Go.WideShapes Go.RowKit
variable {G : Glob}
def Zg1 (a b : Head) : Bool := ((a.region == b.region) && ((a.epoch == b.epoch) && ((a.size == b.size) && ((Za6 32 a.root b.root) && ((a.tick == b.tick) && true)))))
theorem Z3i (a b : Head) {d : Nat} : Z6 Tryd.prog (Op.equalIn (d + 3) 28 (Zbp a) (Zbp b)) = some (Zg1 a b) :=
 eqS (P := Tryd.prog) (d + 2) 28 _ (Zav a).toArray (Zav b).toArray (fun f => if f.offset = 0 then (a.region == b.region) else if f.offset = 1 then (a.epoch == b.epoch) else if f.offset = 2 then (a.size == b.size) else if f.offset = 3 then (Za6 32 a.root b.root) else if f.offset = 35 then (a.tick == b.tick) else true) rfl (by kernel_rfl) (List.forall_mem_cons.2 ⟨⟨by decide, Iv a.region, Iv b.region, Zba rfl rfl rfl, Zba rfl rfl rfl, Zfw rfl⟩, List.forall_mem_cons.2 ⟨⟨by decide, Iv a.epoch, Iv b.epoch, Zba rfl rfl rfl, Zba rfl rfl rfl, Zfw rfl⟩, List.forall_mem_cons.2 ⟨⟨by decide, Iv a.size, Iv b.size, Zba rfl rfl rfl, Zba rfl rfl rfl, Zfw rfl⟩, List.forall_mem_cons.2 ⟨⟨by decide, .agg (Zac w8 32 a.root).toArray, .agg (Zac w8 32 b.root).toArray, Zcm (n := 32) rfl rfl rfl rfl rfl, Zcm (n := 32) rfl rfl rfl rfl rfl, Zkc rfl rfl rfl⟩, List.forall_mem_cons.2 ⟨⟨by decide, Iv a.tick, Iv b.tick, Zba rfl rfl rfl, Zba rfl rfl rfl, Zfw rfl⟩, fun _ h => absurd h (by simp)⟩⟩⟩⟩⟩)
theorem Zu3 (a : Head) : Zg1 a a = true := by simp [Zg1, Za6]
def Zc9 (a b : Signed) : Bool := ((Zg1 a.head b.head) && ((a.node == b.node) && ((Za6 32 a.tag b.tag) && true)))
theorem Zm1 (a b : Signed) {d : Nat} : Z6 Tryd.prog (Op.equalIn (d + 4) 33 (Z0 a) (Z0 b)) = some (Zc9 a b) :=
 eqS (P := Tryd.prog) (d + 3) 33 _ (Zd a).toArray (Zd b).toArray (fun f => if f.offset = 0 then (Zg1 a.head b.head) else if f.offset = 36 then (a.node == b.node) else if f.offset = 37 then (Za6 32 a.tag b.tag) else true) rfl (by kernel_rfl) (List.forall_mem_cons.2 ⟨⟨by decide, Zbp a.head, Zbp b.head, Zcm (n := 36) rfl rfl rfl rfl rfl, Zcm (n := 36) rfl rfl rfl rfl rfl, Z3i a.head b.head⟩, List.forall_mem_cons.2 ⟨⟨by decide, Iv a.node, Iv b.node, Zba rfl rfl rfl, Zba rfl rfl rfl, Zfw rfl⟩, List.forall_mem_cons.2 ⟨⟨by decide, .agg (Zac w8 32 a.tag).toArray, .agg (Zac w8 32 b.tag).toArray, Zcm (n := 32) rfl rfl rfl rfl rfl, Zcm (n := 32) rfl rfl rfl rfl rfl, Zkc rfl rfl rfl⟩, fun _ h => absurd h (by simp)⟩⟩⟩)
theorem Zvi {x y : Operand} (a b : Signed) : Zbx Tryd.prog .eql 33 x y (Z0 a) (Z0 b) = some (.bool (Zc9 a b)) := Zso (by kernel_rfl) (by kernel_rfl) (Zm1 a b (d := 9996))
theorem Zpw {x y : Operand} (a b : Signed) : Zbx Tryd.prog .neq 33 x y (Z0 a) (Z0 b) = some (.bool (!Zc9 a b)) := Zxh (by kernel_rfl) (by kernel_rfl) (Zm1 a b (d := 9996))
theorem Zh1 (a : Signed) : Zc9 a a = true := by simp [Zc9, Za6, Zu3]
def okHead (a : Head) : Prop := (-9223372036854775808 ≤ a.region ∧ a.region ≤ 9223372036854775807) ∧ (-9223372036854775808 ≤ a.epoch ∧ a.epoch ≤ 9223372036854775807) ∧ (-9223372036854775808 ≤ a.size ∧ a.size ≤ 9223372036854775807) ∧ True ∧ (-9223372036854775808 ≤ a.tick ∧ a.tick ≤ 9223372036854775807) ∧ True
theorem Zwc : Zao Tryd.prog 28 Zav okHead := by
 intro H encH W fuel cs x h
 obtain ⟨xs, n, _, _, hl, hxl, hel⟩ := DataW.trod_struct (P := Tryd.prog) (t := 28) (fs := _) rfl h
 have hl' : cs.length = 36 := hl.trans (by kernel_rfl)
 obtain ⟨a0, e0, k0⟩ := Zao.at_ (t := 3) (off := 0) (k := 1) (Zao.int (by kernel_rfl)) (hel 0 _ rfl) (by rw [hxl]; decide) rfl (by kernel_rfl) rfl
 have q0 : cs.drop 0 = [Iv a0] ++ cs.drop 1 := by rw [Zax 0 1, e0]
 obtain ⟨a1, e1, k1⟩ := Zao.at_ (t := 3) (off := 1) (k := 1) (Zao.int (by kernel_rfl)) (hel 1 _ rfl) (by rw [hxl]; decide) rfl (by kernel_rfl) rfl
 have q1 : cs.drop 1 = [Iv a1] ++ cs.drop 2 := by rw [Zax 1 1, e1]
 obtain ⟨a2, e2, k2⟩ := Zao.at_ (t := 3) (off := 2) (k := 1) (Zao.int (by kernel_rfl)) (hel 2 _ rfl) (by rw [hxl]; decide) rfl (by kernel_rfl) rfl
 have q2 : cs.drop 2 = [Iv a2] ++ cs.drop 3 := by rw [Zax 2 1, e2]
 obtain ⟨a3, e3, k3⟩ := Zao.at_ (t := 26) (off := 3) (k := 32) (Zao.bytes (n := 32) (tb := 5) (by kernel_rfl) (by kernel_rfl) (by kernel_rfl) (by kernel_rfl)) (hel 3 _ rfl) (by rw [hxl]; decide) rfl (by kernel_rfl) rfl
 have q3 : cs.drop 3 = Zac w8 32 a3 ++ cs.drop 35 := by rw [Zax 3 32, e3]
 obtain ⟨a4, e4, k4⟩ := Zao.at_ (t := 3) (off := 35) (k := 1) (Zao.int (by kernel_rfl)) (hel 4 _ rfl) (by rw [hxl]; decide) rfl (by kernel_rfl) rfl
 have q4 : cs.drop 35 = [Iv a4] ++ cs.drop 36 := by rw [Zax 35 1, e4]
 have qe : cs.drop 36 = [] := List.drop_of_length_le (by omega)
 refine ⟨⟨a0, a1, a2, a3, a4⟩, ?_, k0, k1, k2, k3, k4, trivial⟩
 rw [List.drop_zero] at q0
 rw [q0, q1, q2, q3, q4, qe]
 simp [Zav]
def okSigned (a : Signed) : Prop := okHead a.head ∧ (-9223372036854775808 ≤ a.node ∧ a.node ≤ 9223372036854775807) ∧ True ∧ True
theorem Zje : Zao Tryd.prog 33 Zd okSigned := by
 intro H encH W fuel cs x h
 obtain ⟨xs, n, _, _, hl, hxl, hel⟩ := DataW.trod_struct (P := Tryd.prog) (t := 33) (fs := _) rfl h
 have hl' : cs.length = 69 := hl.trans (by kernel_rfl)
 obtain ⟨a0, e0, k0⟩ := Zao.at_ (t := 28) (off := 0) (k := 36) (Zwc) (hel 0 _ rfl) (by rw [hxl]; decide) rfl (by kernel_rfl) rfl
 have q0 : cs.drop 0 = Zav a0 ++ cs.drop 36 := by rw [Zax 0 36, e0]
 obtain ⟨a1, e1, k1⟩ := Zao.at_ (t := 3) (off := 36) (k := 1) (Zao.int (by kernel_rfl)) (hel 1 _ rfl) (by rw [hxl]; decide) rfl (by kernel_rfl) rfl
 have q1 : cs.drop 36 = [Iv a1] ++ cs.drop 37 := by rw [Zax 36 1, e1]
 obtain ⟨a2, e2, k2⟩ := Zao.at_ (t := 26) (off := 37) (k := 32) (Zao.bytes (n := 32) (tb := 5) (by kernel_rfl) (by kernel_rfl) (by kernel_rfl) (by kernel_rfl)) (hel 2 _ rfl) (by rw [hxl]; decide) rfl (by kernel_rfl) rfl
 have q2 : cs.drop 37 = Zac w8 32 a2 ++ cs.drop 69 := by rw [Zax 37 32, e2]
 have qe : cs.drop 69 = [] := List.drop_of_length_le (by omega)
 refine ⟨⟨a0, a1, a2⟩, ?_, k0, k1, k2, trivial⟩
 rw [List.drop_zero] at q0
 rw [q0, q1, q2, qe]
 simp [Zd]
end Go.Flat
