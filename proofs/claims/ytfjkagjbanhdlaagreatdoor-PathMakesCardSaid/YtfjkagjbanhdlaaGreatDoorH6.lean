/- Walks. -/
import Derived.Test.YtfjkagjbanhdlaaGreatDoorH5
set_option linter.unusedVariables false
set_option linter.unusedSimpArgs false
set_option maxRecDepth 20000
namespace Go.Flat
open Go.Proofs
variable {G : Glob}
def Zfk : ByteArray := ⟨#[104, 101, 97, 100, 32]⟩
theorem Zln : Zfk.size = 5 := rfl
theorem Zn5 (h : Head) : (Zas h).2 = Zbn h := by
 unfold Zas
 split
 ·rename_i h0; exact h0.symm
 ·rfl
def Zok : List Field → Nat
  | [] => 0
  | f :: l => f.data.size + 4 + Zok l
theorem Zif : ∀ (fs : List Field) (last : Int) (acc : Bs), (Z9 fs last acc).1.length ≤ acc.length + Zok fs
 | [], _, acc => by simp [Z9, Zok]
 | f :: fs, last, acc => by
  rw [Z9]
  split
  ·have := Zif fs f.tag (acc ++ Zeo f)
   rw [List.length_append, Zjj] at this
   simp only [Zok]; omega
  ·simp
theorem Zvw : ∀ (f n a : Nat) (b : D), (Zks f n a b).length ≤ 8
 | 0, n, a, b => by rw [Zks, List.length_drop, Zjh]; omega
 | f + 1, n, a, b => by
  rw [Zks]
  split
  ·rw [List.length_drop, Zjh]; omega
  ·exact Zvw f _ _ _
theorem Za7 (n : Int) : (Zn n).1.size ≤ 8 := by
 unfold Zn
 split
 ·rw [Za1]; exact Zvw _ _ _ _
 ·show 0 ≤ 8; omega
theorem Zqx (h : Head) : (Zas h).1.length ≤ 100 := by
 unfold Zas
 split
 ·have := Zif (Zhn 0 (Zdd h)) 0 []
  simp only [Zdd, Zhn, Zok, Za1, Zfc, List.length_nil] at this
  have h1 := Za7 h.region
  have h2 := Za7 h.epoch
  have h3 := Za7 h.size
  have h4 := Za7 h.tick
  show (Z9 (Zhn 0 (Zdd h)) 0 []).1.length ≤ 100
  simp only [Zdd, Zhn]
  omega
 ·simp
def Zaj (s : Signed) : Bs × Int := if Zbn s.head = 0 ∧ 1 ≤ s.node ∧ s.node ≤ 3 then (Zai [Zm (Zas s.head).1, (Zn s.node).1, Zm (dgL s.tag)], 0) else ([], 70)
def Zl6 (kk : Nat → BitVec 32) (master : D) (h : Head) (node : Int) : Signed × Int :=
  if ((Zas h).2) ≠ 0 then ((⟨(⟨0, 0, 0, dz, 0⟩ : Head), 0, dz⟩ : Signed), ((Zas h).2)) else
  if ((Zci kk master h.region node).2) ≠ 0 then ((⟨(⟨0, 0, 0, dz, 0⟩ : Head), 0, dz⟩ : Signed), 70) else
  ((⟨h, node, (Zgz kk ((Zci kk master h.region node).1) (Zfk ++ (Zm ((Zas h).1))))⟩ : Signed), 0)
abbrev Y3  : Blk := bxB 69 (Zj (⟨(⟨0, 0, 0, dz, 0⟩ : Head), 0, dz⟩ : Signed))
theorem Z5s (kk : Nat → BitVec 32) (hG : G 3 = some (Zag w32 64 kk)) (master : D) (h : Head) (node : Int) : Z6 Tryz.prog G 45 [dgV master, Zcd h, Iv node] [] (.tuple #[Zy (Zl6 kk master h node).1, Iv (Zl6 kk master h node).2]) [] := by
 refine Za8 (fn := Tryz.f45) (nt := 39) rfl rfl rfl rfl ?_
 refine Zaa 5 (H' := [hole, hole, hole, hole, hole]) rfl ?_
 refine Zf (Zg (Zbq (v := dgV master) (b := dgB master) (nid := 0) (H' := [dgB master, hole, hole, hole, hole]) (Zbq (v := Zcd h) (b := bxB 36 (Zcz h)) (nid := 1) (H' := [dgB master, bxB 36 (Zcz h), hole, hole, hole]) (Zam (b := bxB 69 (Zj (⟨(⟨0, 0, 0, dz, 0⟩ : Head), 0, dz⟩ : Signed))) (nid := 2) (H' := [dgB master, bxB 36 (Zcz h), Y3, hole, hole]) (Zb (Iv 0) (Za (Zc (Zf (Zg (Zp (p := pt 1 0) (v := Zcd h) ?_))))))))))
 have hpe4 := Zn5 h
 have hpl4 := Zqx h
 refine Z2 (e := []) (nid := 3) (Zxg (G := G) h) (vals := [Zcd h]) (v := .tuple #[slv 3 0 ((Zas h).1.length) ((Zas h).1.length), Iv ((Zas h).2)]) (H' := [dgB master, bxB 36 (Zcz h), Y3, Zah ((Zas h).1), hole]) rfl rfl rfl rfl rfl rfl rfl ⟨⟨rfl, trivial⟩, trivial, rfl, rfl, rfl⟩ (by kernel_rfl) (by kernel_rfl) ?_
 refine Zd (.tuple #[slv 3 0 ((Zas h).1.length) ((Zas h).1.length), Iv ((Zas h).2)]) (Zw (vs := #[slv 3 0 ((Zas h).1.length) ((Zas h).1.length), Iv ((Zas h).2)]) (v := slv 3 0 ((Zas h).1.length) ((Zas h).1.length)) (Zw (vs := #[slv 3 0 ((Zas h).1.length) ((Zas h).1.length), Iv ((Zas h).2)]) (v := Iv ((Zas h).2)) (Zb (slv 3 0 ((Zas h).1.length) ((Zas h).1.length)) (Zb (Iv ((Zas h).2)) (Za (Zc (Zf (Zf (Zg (Zd (Iv ((Zas h).2)) ?_))))))))))
 by_cases h1 : ((Zas h).2) ≠ 0
 refine Zl (vx := Iv ((Zas h).2)) (vy := Iv 0) rfl rfl (.bool true) rfl rfl (Zea (by omega)) ?_
 refine Za (Zc (Zx rfl (Zf (Zg ?_))))
 refine Za5 (vs := []) (v := Zy (⟨(⟨0, 0, 0, dz, 0⟩ : Head), 0, dz⟩ : Signed)) rfl rfl rfl (by kernel_rfl) ?_
 refine Zd (Iv ((Zas h).2)) (Z7 (p := pt 2 0) (v := Zy (⟨(⟨0, 0, 0, dz, 0⟩ : Head), 0, dz⟩ : Signed)) (b := 2) (blk := bxB 69 (Zj (⟨(⟨0, 0, 0, dz, 0⟩ : Head), 0, dz⟩ : Signed))) (H' := [dgB master, bxB 36 (Zcz h), Y3, Zah ((Zas h).1), hole]) (Zb (Iv ((Zas h).2)) (Za (Zc (Zq (Zz (Zr ?_)))))))
 rw [show Zl6 kk master h node = ((⟨(⟨0, 0, 0, dz, 0⟩ : Head), 0, dz⟩ : Signed), ((Zas h).2)) from by unfold Zl6; rw [if_pos h1]]
 exact Zk (v := .tuple #[Zy (⟨(⟨0, 0, 0, dz, 0⟩ : Head), 0, dz⟩ : Signed), Iv ((Zas h).2)]) (by kernel_rfl) rfl rfl (by kernel_rfl) ⟨(Zin (by kernel_rfl) rfl), rfl, trivial⟩
 refine Zl (vx := Iv ((Zas h).2)) (vy := Iv 0) rfl rfl (.bool false) rfl rfl (Zdz (by omega)) ?_
 refine Za (Zc (Zu rfl (Z0 (Zc (Zf (Zg (Zp (p := pt 0 0) (v := dgV master) (Zh (b := 1) (o := 0) (n := 0) (o' := 0) (Zp (p := pt 1 0) (v := Iv h.region) (Zd (Iv node) ?_))))))))))
 refine Zo (Z40 (G := G) kk hG master h.region node) (vals := [dgV master, Iv h.region, Iv node]) (res' := .tuple #[dgV ((Zci kk master h.region node).1), Iv ((Zci kk master h.region node).2)]) rfl rfl rfl rfl rfl (by kernel_rfl) ?_
 refine Zd (.tuple #[dgV ((Zci kk master h.region node).1), Iv ((Zci kk master h.region node).2)]) (Zw (vs := #[dgV ((Zci kk master h.region node).1), Iv ((Zci kk master h.region node).2)]) (v := dgV ((Zci kk master h.region node).1)) (Zw (vs := #[dgV ((Zci kk master h.region node).1), Iv ((Zci kk master h.region node).2)]) (v := Iv ((Zci kk master h.region node).2)) (Zam (b := dgB dz) (nid := 4) (H' := [dgB master, bxB 36 (Zcz h), Y3, Zah ((Zas h).1), dgB dz]) (Z7 (p := pt 4 0) (v := dgV ((Zci kk master h.region node).1)) (b := 4) (blk := dgB ((Zci kk master h.region node).1)) (H' := [dgB master, bxB 36 (Zcz h), Y3, Zah ((Zas h).1), dgB ((Zci kk master h.region node).1)]) (Zb (Iv ((Zci kk master h.region node).2)) (Za (Zc (Zf (Zf (Zg (Zd (Iv ((Zci kk master h.region node).2)) ?_)))))))))))
 by_cases h2 : ((Zci kk master h.region node).2) ≠ 0
 refine Zl (vx := Iv ((Zci kk master h.region node).2)) (vy := Iv 0) rfl rfl (.bool true) rfl rfl (Zea (by omega)) ?_
 refine Za (Zc (Zx rfl (Zf (Zg ?_))))
 refine Za5 (vs := []) (v := Zy (⟨(⟨0, 0, 0, dz, 0⟩ : Head), 0, dz⟩ : Signed)) rfl rfl rfl (by kernel_rfl) ?_
 refine Z7 (p := pt 2 0) (v := Zy (⟨(⟨0, 0, 0, dz, 0⟩ : Head), 0, dz⟩ : Signed)) (b := 2) (blk := bxB 69 (Zj (⟨(⟨0, 0, 0, dz, 0⟩ : Head), 0, dz⟩ : Signed))) (H' := [dgB master, bxB 36 (Zcz h), Y3, Zah ((Zas h).1), dgB ((Zci kk master h.region node).1)]) (Zb (Iv 70) (Za (Zc (Zq (Zz (Zr ?_))))))
 rw [show Zl6 kk master h node = ((⟨(⟨0, 0, 0, dz, 0⟩ : Head), 0, dz⟩ : Signed), 70) from by unfold Zl6; rw [if_neg h1, if_pos h2]]
 exact Zk (v := .tuple #[Zy (⟨(⟨0, 0, 0, dz, 0⟩ : Head), 0, dz⟩ : Signed), Iv 70]) (by kernel_rfl) rfl rfl (by kernel_rfl) ⟨(Zin (by kernel_rfl) rfl), rfl, trivial⟩
 refine Zl (vx := Iv ((Zci kk master h.region node).2)) (vy := Iv 0) rfl rfl (.bool false) rfl rfl (Zdz (by omega)) ?_
 refine Za (Zc (Zu rfl (Z0 (Zc (Zf ?_)))))
 refine Zgc (by kernel_rfl) ?_
 refine Zp (p := pt 1 0) (v := Zcd h) (Zd (Iv node) (Zp (p := pt 4 0) (v := dgV ((Zci kk master h.region node).1)) (Zd (slv 3 0 ((Zas h).1.length) ((Zas h).1.length)) ?_)))
 refine Ze2 (p := slv 3 0 ((Zas h).1.length) ((Zas h).1.length)) (v := .string (Zm ((Zas h).1))) rfl rfl rfl (Zdu rfl rfl rfl rfl rfl (by omega)) ?_
 refine Zl (vx := .string Zfk) (vy := .string (Zm ((Zas h).1))) rfl rfl (.string (Zfk ++ (Zm ((Zas h).1)))) rfl rfl (Zhc (by simp only [ByteArray.size_append, Za1, Zi1, Zfc, Zln]; omega)) ?_
 refine Zo (Zxs (G := G) kk hG ((Zci kk master h.region node).1) (Zfk ++ (Zm ((Zas h).1))) (by simp only [ByteArray.size_append, Za1, Zln]; omega)) (vals := [dgV ((Zci kk master h.region node).1), .string (Zfk ++ (Zm ((Zas h).1)))]) (res' := dgV (Zgz kk ((Zci kk master h.region node).1) (Zfk ++ (Zm ((Zas h).1))))) rfl rfl rfl rfl rfl (by kernel_rfl) ?_
 refine Za5 (vs := [(0, Zcd h), (1, Iv node), (2, dgV (Zgz kk ((Zci kk master h.region node).1) (Zfk ++ (Zm ((Zas h).1)))))]) (v := Zy (⟨h, node, (Zgz kk ((Zci kk master h.region node).1) (Zfk ++ (Zm ((Zas h).1))))⟩ : Signed)) rfl rfl rfl (by kernel_rfl) ?_
 refine Z7 (p := pt 2 0) (v := Zy (⟨h, node, (Zgz kk ((Zci kk master h.region node).1) (Zfk ++ (Zm ((Zas h).1))))⟩ : Signed)) (b := 2) (blk := bxB 69 (Zj (⟨h, node, (Zgz kk ((Zci kk master h.region node).1) (Zfk ++ (Zm ((Zas h).1))))⟩ : Signed))) (H' := [dgB master, bxB 36 (Zcz h), bxB 69 (Zj (⟨h, node, (Zgz kk ((Zci kk master h.region node).1) (Zfk ++ (Zm ((Zas h).1))))⟩ : Signed)), Zah ((Zas h).1), dgB ((Zci kk master h.region node).1)]) (Zb (Iv 0) ?_)
 refine Zeu (by kernel_rfl) ?_
 refine Zc (Zq (Zr ?_))
 rw [show Zl6 kk master h node = ((⟨h, node, (Zgz kk ((Zci kk master h.region node).1) (Zfk ++ (Zm ((Zas h).1))))⟩ : Signed), 0) from by unfold Zl6; rw [if_neg h1, if_neg h2]]
 exact Zk (v := .tuple #[Zy (⟨h, node, (Zgz kk ((Zci kk master h.region node).1) (Zfk ++ (Zm ((Zas h).1))))⟩ : Signed), Iv 0]) (by kernel_rfl) rfl rfl (by kernel_rfl) ⟨(Zin (by kernel_rfl) rfl), rfl, trivial⟩
def Zgy (kk : Nat → BitVec 32) (master : D) (s : Signed) : Int :=
  if ((Zas s.head).2) ≠ 0 then 70 else
  if 1 ≤ s.node then (if s.node ≤ 3 then (Zg6 kk master s.head.region s.node (Zfk ++ (Zm ((Zas s.head).1))) s.tag) else
  70) else
  70
theorem Z2d (kk : Nat → BitVec 32) (hG : G 3 = some (Zag w32 64 kk)) (master : D) (s : Signed) : Z6 Tryz.prog G 46 [dgV master, Zy s] [] (Iv (Zgy kk master s)) [] := by
 refine Za8 (fn := Tryz.f46) (nt := 33) rfl rfl rfl rfl ?_
 refine Zaa 3 (H' := [hole, hole, hole]) rfl ?_
 refine Zf (Zg (Zbq (v := dgV master) (b := dgB master) (nid := 0) (H' := [dgB master, hole, hole]) (Zbq (v := Zy s) (b := bxB 69 (Zj s)) (nid := 1) (H' := [dgB master, bxB 69 (Zj s), hole]) (Zb (Iv 0) (Za (Zc (Zf (Zg (Zh (b := 1) (o := 0) (n := 0) (o' := 0) (Zp (p := pt 1 0) (v := Zcd s.head) ?_))))))))))
 have hpe3 := Zn5 s.head
 have hpl3 := Zqx s.head
 refine Z2 (e := []) (nid := 2) (Zxg (G := G) s.head) (vals := [Zcd s.head]) (v := .tuple #[slv 2 0 ((Zas s.head).1.length) ((Zas s.head).1.length), Iv ((Zas s.head).2)]) (H' := [dgB master, bxB 69 (Zj s), Zah ((Zas s.head).1)]) rfl rfl rfl rfl rfl rfl rfl ⟨⟨rfl, trivial⟩, trivial, rfl, rfl, rfl⟩ (by kernel_rfl) (by kernel_rfl) ?_
 refine Zd (.tuple #[slv 2 0 ((Zas s.head).1.length) ((Zas s.head).1.length), Iv ((Zas s.head).2)]) (Zw (vs := #[slv 2 0 ((Zas s.head).1.length) ((Zas s.head).1.length), Iv ((Zas s.head).2)]) (v := slv 2 0 ((Zas s.head).1.length) ((Zas s.head).1.length)) (Zw (vs := #[slv 2 0 ((Zas s.head).1.length) ((Zas s.head).1.length), Iv ((Zas s.head).2)]) (v := Iv ((Zas s.head).2)) (Zb (slv 2 0 ((Zas s.head).1.length) ((Zas s.head).1.length)) (Zb (Iv ((Zas s.head).2)) (Za (Zc (Zf (Zf (Zg (Zd (Iv ((Zas s.head).2)) ?_))))))))))
 by_cases h1 : ((Zas s.head).2) ≠ 0
 refine Zl (vx := Iv ((Zas s.head).2)) (vy := Iv 0) rfl rfl (.bool true) rfl rfl (Zea (by omega)) ?_
 refine Zd (.bool true) (Ze (Ze (Ze (Ze (Zi (.bool true) (Za (Zc (Zx rfl (Zf (Zg (Zb (Iv 70) (Za (Zc (Zq (Zz (Zr ?_))))))))))))))))
 rw [show Zgy kk master s = 70 from by unfold Zgy; rw [if_pos h1]]
 exact Zk (v := Iv 70) rfl rfl rfl (by kernel_rfl) rfl
 refine Zl (vx := Iv ((Zas s.head).2)) (vy := Iv 0) rfl rfl (.bool false) rfl rfl (Zdz (by omega)) ?_
 refine Zd (.bool false) (Zh (b := 1) (o := 0) (n := 36) (o' := 36) (Zp (p := pt 1 36) (v := Iv s.node) ?_))
 by_cases h2 : 1 ≤ s.node
 by_cases h3 : s.node ≤ 3
 refine Zo ((Zc5 (G := G) s.node 1 3).res (congrArg Value.bool (Zbc (by omega) (by omega)))) (vals := [Iv s.node, Iv 1, Iv 3]) (res' := .bool true) rfl rfl rfl rfl rfl rfl ?_
 refine Zg5 (vx := .bool true) rfl rfl (.bool false) rfl Zd1 ?_
 refine Zi (.bool false) (Za (Zc (Zu rfl (Z0 (Zc (Zf (Zg (Zp (p := pt 0 0) (v := dgV master) (Zh (b := 1) (o := 0) (n := 0) (o' := 0) (Zh (b := 1) (o := 0) (n := 0) (o' := 0) (Zp (p := pt 1 0) (v := Iv s.head.region) (Zh (b := 1) (o := 0) (n := 36) (o' := 36) (Zp (p := pt 1 36) (v := Iv s.node) (Zd (slv 2 0 ((Zas s.head).1.length) ((Zas s.head).1.length)) ?_))))))))))))))
 refine Ze2 (p := slv 2 0 ((Zas s.head).1.length) ((Zas s.head).1.length)) (v := .string (Zm ((Zas s.head).1))) rfl rfl rfl (Zdu rfl rfl rfl rfl rfl (by omega)) ?_
 refine Zl (vx := .string Zfk) (vy := .string (Zm ((Zas s.head).1))) rfl rfl (.string (Zfk ++ (Zm ((Zas s.head).1)))) rfl rfl (Zhc (by simp only [ByteArray.size_append, Za1, Zi1, Zfc, Zln]; omega)) ?_
 refine Zh (b := 1) (o := 0) (n := 37) (o' := 37) (Zp (p := pt 1 37) (v := dgV s.tag) ?_)
 refine Zo (Z28 (G := G) kk hG master s.head.region s.node (Zfk ++ (Zm ((Zas s.head).1))) s.tag (by simp only [ByteArray.size_append, Za1, Zln]; omega)) (vals := [dgV master, Iv s.head.region, Iv s.node, .string (Zfk ++ (Zm ((Zas s.head).1))), dgV s.tag]) (res' := Iv (Zg6 kk master s.head.region s.node (Zfk ++ (Zm ((Zas s.head).1))) s.tag)) rfl rfl rfl rfl rfl rfl ?_
 refine Zb (Iv (Zg6 kk master s.head.region s.node (Zfk ++ (Zm ((Zas s.head).1))) s.tag)) (Za (Zc (Zq (Zr ?_))))
 rw [show Zgy kk master s = (Zg6 kk master s.head.region s.node (Zfk ++ (Zm ((Zas s.head).1))) s.tag) from by unfold Zgy; rw [if_neg h1, if_pos h2, if_pos h3]]
 exact Zk (v := Iv (Zg6 kk master s.head.region s.node (Zfk ++ (Zm ((Zas s.head).1))) s.tag)) rfl rfl rfl (by kernel_rfl) rfl
 refine Zo ((Zc5 (G := G) s.node 1 3).res (congrArg Value.bool (Z8 (by omega)))) (vals := [Iv s.node, Iv 1, Iv 3]) (res' := .bool false) rfl rfl rfl rfl rfl rfl ?_
 refine Zg5 (vx := .bool false) rfl rfl (.bool true) rfl Zd1 ?_
 refine Zi (.bool true) (Za (Zc (Zx rfl (Zf (Zg (Zb (Iv 70) (Za (Zc (Zq (Zz (Zr ?_)))))))))))
 rw [show Zgy kk master s = 70 from by unfold Zgy; rw [if_neg h1, if_pos h2, if_neg h3]]
 exact Zk (v := Iv 70) rfl rfl rfl (by kernel_rfl) rfl
 refine Zo ((Zc5 (G := G) s.node 1 3).res (congrArg Value.bool (Z8 (by omega)))) (vals := [Iv s.node, Iv 1, Iv 3]) (res' := .bool false) rfl rfl rfl rfl rfl rfl ?_
 refine Zg5 (vx := .bool false) rfl rfl (.bool true) rfl Zd1 ?_
 refine Zi (.bool true) (Za (Zc (Zx rfl (Zf (Zg (Zb (Iv 70) (Za (Zc (Zq (Zz (Zr ?_)))))))))))
 rw [show Zgy kk master s = 70 from by unfold Zgy; rw [if_neg h1, if_neg h2]]
 exact Zk (v := Iv 70) rfl rfl rfl (by kernel_rfl) rfl
theorem Znw (s : Signed) : Z6 Tryz.prog G 19 [Zy s] [] (.tuple #[slv 0 0 (Zaj s).1.length (Zaj s).1.length, Iv (Zaj s).2]) [Zah (Zaj s).1] := by
  refine Za8 (fn := Tryz.f19) (nt := 32) rfl rfl rfl rfl ?_
  refine Zaa 5 (H' := [hole, hole, hole, hole, hole]) rfl ?_
  refine Zf (Zg (Zbq (v := Zy s) (b := bxB 69 (Zj s)) (nid := 0) (H' := [bxB 69 (Zj s), hole, hole, hole, hole]) (Zb (.slice none 0 0) (Zb (Iv 0) (Za (Zc (Zf (Zg (Zh (b := 0) (o := 0) (n := 0) (o' := 0) (Zp (p := pt 0 0) (v := Zcd s.head) ?_))))))))))
  have hpe6 := Zn5 s.head
  have hpl6 := Zqx s.head
  refine Z2 (e := []) (nid := 1) (Zxg (G := G) s.head) (vals := [Zcd s.head]) (v := .tuple #[slv 1 0 ((Zas s.head).1.length) ((Zas s.head).1.length), Iv ((Zas s.head).2)]) (H' := [bxB 69 (Zj s), Zah ((Zas s.head).1), hole, hole, hole]) rfl rfl rfl rfl rfl rfl rfl ⟨⟨rfl, trivial⟩, trivial, rfl, rfl, rfl⟩ (by kernel_rfl) (by kernel_rfl) ?_
  refine Zd (.tuple #[slv 1 0 ((Zas s.head).1.length) ((Zas s.head).1.length), Iv ((Zas s.head).2)]) (Zw (vs := #[slv 1 0 ((Zas s.head).1.length) ((Zas s.head).1.length), Iv ((Zas s.head).2)]) (v := slv 1 0 ((Zas s.head).1.length) ((Zas s.head).1.length)) (Zw (vs := #[slv 1 0 ((Zas s.head).1.length) ((Zas s.head).1.length), Iv ((Zas s.head).2)]) (v := Iv ((Zas s.head).2)) (Zb (slv 1 0 ((Zas s.head).1.length) ((Zas s.head).1.length)) (Zb (Iv ((Zas s.head).2)) (Za (Zc (Zf (Zf (Zg (Zd (Iv ((Zas s.head).2)) ?_))))))))))
  by_cases h1 : ((Zas s.head).2) ≠ 0
  refine Zl (vx := Iv ((Zas s.head).2)) (vy := Iv 0) rfl rfl (.bool true) rfl rfl (Zea (by omega)) ?_
  refine Zd (.bool true) (Ze (Ze (Ze (Ze (Zi (.bool true) (Za (Zc (Zx rfl (Zf (Zg (Zb (.slice none 0 0) (Zb (Iv 70) (Za (Zc ?_))))))))))))))
  refine Zbo (Zb6.nilTmp (i := 2) (b := 2) true 1 rfl (by decide) rfl) ?_
  refine Zq (Zz (Zr ?_))
  rw [show Zaj s = ([], 70) from if_neg (by omega)]
  exact Zav [2] (v := .tuple #[slv 2 0 0 0, Iv 70]) rfl (by kernel_rfl) rfl rfl (by decide) (by simp [Za0, Zah]) ⟨⟨rfl, rfl, rfl, by first | omega | exact Nat.le_refl _ | exact Nat.zero_le _ | (dsimp only; omega), by first | omega | exact Nat.le_refl _ | exact Nat.zero_le _ | (dsimp only; omega)⟩, rfl, trivial⟩
  refine Zl (vx := Iv ((Zas s.head).2)) (vy := Iv 0) rfl rfl (.bool false) rfl rfl (Zdz (by omega)) ?_
  refine Zd (.bool false) (Zh (b := 0) (o := 0) (n := 36) (o' := 36) (Zp (p := pt 0 36) (v := Iv s.node) ?_))
  by_cases h2 : 1 ≤ s.node
  by_cases h3 : s.node ≤ 3
  refine Zo ((Zc5 (G := G) s.node 1 3).res (congrArg Value.bool (Zbc (by omega) (by omega)))) (vals := [Iv s.node, Iv 1, Iv 3]) (res' := .bool true) rfl rfl rfl rfl rfl rfl ?_
  refine Zg5 (vx := .bool true) rfl rfl (.bool false) rfl Zd1 ?_
  refine Zi (.bool false) (Za (Zc (Zu rfl (Z0 (Zc (Zf (Zg (Zam (b := rfB (.slice none 0 0)) (nid := 2) (H' := [bxB 69 (Zj s), Zah ((Zas s.head).1), rfB (.slice none 0 0), hole, hole]) (Za (Zc (Zf ?_)))))))))))
  refine Zbo (Zb6.nilCell (k := 2) (j := 0) (b := 3) true 1 rfl (by decide) rfl (by show 0 < 1; decide) rfl rfl) ?_
  refine Zg (Zd (slv 1 0 ((Zas s.head).1.length) ((Zas s.head).1.length)) ?_)
  refine Ze2 (p := slv 1 0 ((Zas s.head).1.length) ((Zas s.head).1.length)) (v := .string (Zm ((Zas s.head).1))) rfl rfl rfl (Zdu rfl rfl rfl rfl rfl (by omega)) ?_
  refine Zdq (e := [some (2, 0), some (3, 0)]) (nid := 0) (Zqn (G := G) [] 0 (Zm ((Zas s.head).1)) rfl (by omega)) (vals := [pt 2 0, .string (Zm ((Zas s.head).1))]) (v := .tuple #[]) (H' := [bxB 69 (Zj s), Zah ((Zas s.head).1), rfB (slv 3 0 1 1), txB ([] ++ [(Zm ((Zas s.head).1))]), hole]) rfl rfl rfl rfl rfl rfl ⟨⟨⟨rfl, rfl⟩, rfl, trivial⟩, ⟨(Zbd rfl rfl rfl rfl), (Zbd rfl rfl rfl rfl), trivial⟩, rfl, rfl, rfl, Nat.le_refl _⟩ (by kernel_rfl) rfl (by kernel_rfl) ?_
  refine Za (Zc (Zf (Zg (Zh (b := 0) (o := 0) (n := 36) (o' := 36) (Zp (p := pt 0 36) (v := Iv s.node) ?_)))))
  refine Zdq (e := [some (2, 0), some (3, 0)]) (nid := 0) (Zku (G := G) ([] ++ [(Zm ((Zas s.head).1))]) 1 s.node rfl (by omega) (by omega) (by omega)) (vals := [pt 2 0, Iv s.node]) (v := .tuple #[]) (H' := [bxB 69 (Zj s), Zah ((Zas s.head).1), rfB (slv 3 0 2 2), txB (([] ++ [(Zm ((Zas s.head).1))]) ++ [(Zn s.node).1]), hole]) rfl rfl rfl rfl rfl rfl ⟨⟨⟨rfl, rfl⟩, rfl, trivial⟩, ⟨(Zbd rfl rfl rfl rfl), (Zbd rfl rfl rfl rfl), trivial⟩, rfl, rfl, rfl, Nat.le_refl _⟩ (by kernel_rfl) rfl (by kernel_rfl) ?_
  refine Za (Zc (Zf (Zg (Zh (b := 0) (o := 0) (n := 37) (o' := 37) ?_))))
  refine Zc7 (p := pt 0 37) (vl := none) (vh := none) (v := slv 0 37 32 32) rfl rfl rfl rfl rfl rfl ?_
  refine Ze2 (p := slv 0 37 32 32) (v := .string (Zm (dgL s.tag))) rfl rfl rfl (Zem (l := (dgL s.tag)) rfl rfl rfl rfl (of_decide_eq_true (by kernel_rfl)) (by kernel_rfl)) ?_
  refine Zdq (e := [some (2, 0), some (3, 0)]) (nid := 0) (Zqn (G := G) (([] ++ [(Zm ((Zas s.head).1))]) ++ [(Zn s.node).1]) 2 (Zm (dgL s.tag)) rfl (by omega)) (vals := [pt 2 0, .string (Zm (dgL s.tag))]) (v := .tuple #[]) (H' := [bxB 69 (Zj s), Zah ((Zas s.head).1), rfB (slv 3 0 3 3), txB ((([] ++ [(Zm ((Zas s.head).1))]) ++ [(Zn s.node).1]) ++ [(Zm (dgL s.tag))]), hole]) rfl rfl rfl rfl rfl rfl ⟨⟨⟨rfl, rfl⟩, rfl, trivial⟩, ⟨(Zbd rfl rfl rfl rfl), (Zbd rfl rfl rfl rfl), trivial⟩, rfl, rfl, rfl, Nat.le_refl _⟩ (by kernel_rfl) rfl (by kernel_rfl) ?_
  refine Za (Zc (Zf (Zg ?_)))
  refine Zdq (e := [some (2, 0), some (3, 0)]) (nid := 4) (Zvs (G := G) ((([] ++ [(Zm ((Zas s.head).1))]) ++ [(Zn s.node).1]) ++ [(Zm (dgL s.tag))]) 3 rfl (by omega)) (vals := [pt 2 0]) (v := slv 4 0 ((Zai ((([] ++ [(Zm ((Zas s.head).1))]) ++ [(Zn s.node).1]) ++ [(Zm (dgL s.tag))])).length) ((Zai ((([] ++ [(Zm ((Zas s.head).1))]) ++ [(Zn s.node).1]) ++ [(Zm (dgL s.tag))])).length)) (H' := [bxB 69 (Zj s), Zah ((Zas s.head).1), rfB (slv 3 0 3 3), txB ((([] ++ [(Zm ((Zas s.head).1))]) ++ [(Zn s.node).1]) ++ [(Zm (dgL s.tag))]), Zah (Zai ((([] ++ [(Zm ((Zas s.head).1))]) ++ [(Zn s.node).1]) ++ [(Zm (dgL s.tag))]))]) rfl rfl rfl rfl rfl rfl ⟨⟨⟨rfl, rfl⟩, trivial⟩, ⟨(Zbd rfl rfl rfl rfl), (Zbd rfl rfl rfl rfl), trivial⟩, rfl, rfl, rfl, Nat.le_refl _⟩ rfl rfl (by kernel_rfl) ?_
  refine Zb (slv 4 0 ((Zai ((([] ++ [(Zm ((Zas s.head).1))]) ++ [(Zn s.node).1]) ++ [(Zm (dgL s.tag))])).length) ((Zai ((([] ++ [(Zm ((Zas s.head).1))]) ++ [(Zn s.node).1]) ++ [(Zm (dgL s.tag))])).length)) ?_
  refine Zb (Iv 0) (Za (Zc (Zq (Zr ?_))))
  rw [show Zaj s = ((Zai ((([] ++ [(Zm ((Zas s.head).1))]) ++ [(Zn s.node).1]) ++ [(Zm (dgL s.tag))])), 0) from if_pos (by omega)]
  exact Zav [4] (v := .tuple #[slv 4 0 ((Zai ((([] ++ [(Zm ((Zas s.head).1))]) ++ [(Zn s.node).1]) ++ [(Zm (dgL s.tag))])).length) ((Zai ((([] ++ [(Zm ((Zas s.head).1))]) ++ [(Zn s.node).1]) ++ [(Zm (dgL s.tag))])).length), Iv 0]) rfl (by kernel_rfl) rfl rfl (by decide) (by simp [Za0, Zah]) ⟨⟨rfl, rfl, rfl, by first | omega | exact Nat.le_refl _ | exact Nat.zero_le _ | (dsimp only; omega), by first | omega | exact Nat.le_refl _ | exact Nat.zero_le _ | (dsimp only; omega)⟩, rfl, trivial⟩
  refine Zo ((Zc5 (G := G) s.node 1 3).res (congrArg Value.bool (Z8 (by omega)))) (vals := [Iv s.node, Iv 1, Iv 3]) (res' := .bool false) rfl rfl rfl rfl rfl rfl ?_
  refine Zg5 (vx := .bool false) rfl rfl (.bool true) rfl Zd1 ?_
  refine Zi (.bool true) (Za (Zc (Zx rfl (Zf (Zg (Zb (.slice none 0 0) (Zb (Iv 70) (Za (Zc ?_)))))))))
  refine Zbo (Zb6.nilTmp (i := 2) (b := 2) true 1 rfl (by decide) rfl) ?_
  refine Zq (Zz (Zr ?_))
  rw [show Zaj s = ([], 70) from if_neg (by omega)]
  exact Zav [2] (v := .tuple #[slv 2 0 0 0, Iv 70]) rfl (by kernel_rfl) rfl rfl (by decide) (by simp [Za0, Zah]) ⟨⟨rfl, rfl, rfl, by first | omega | exact Nat.le_refl _ | exact Nat.zero_le _ | (dsimp only; omega), by first | omega | exact Nat.le_refl _ | exact Nat.zero_le _ | (dsimp only; omega)⟩, rfl, trivial⟩
  refine Zo ((Zc5 (G := G) s.node 1 3).res (congrArg Value.bool (Z8 (by omega)))) (vals := [Iv s.node, Iv 1, Iv 3]) (res' := .bool false) rfl rfl rfl rfl rfl rfl ?_
  refine Zg5 (vx := .bool false) rfl rfl (.bool true) rfl Zd1 ?_
  refine Zi (.bool true) (Za (Zc (Zx rfl (Zf (Zg (Zb (.slice none 0 0) (Zb (Iv 70) (Za (Zc ?_)))))))))
  refine Zbo (Zb6.nilTmp (i := 2) (b := 2) true 1 rfl (by decide) rfl) ?_
  refine Zq (Zz (Zr ?_))
  rw [show Zaj s = ([], 70) from if_neg (by omega)]
  exact Zav [2] (v := .tuple #[slv 2 0 0 0, Iv 70]) rfl (by kernel_rfl) rfl rfl (by decide) (by simp [Za0, Zah]) ⟨⟨rfl, rfl, rfl, by first | omega | exact Nat.le_refl _ | exact Nat.zero_le _ | (dsimp only; omega), by first | omega | exact Nat.le_refl _ | exact Nat.zero_le _ | (dsimp only; omega)⟩, rfl, trivial⟩
end Go.Flat
