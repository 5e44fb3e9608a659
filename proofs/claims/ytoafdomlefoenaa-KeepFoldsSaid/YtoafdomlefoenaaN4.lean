/- Walks. -/
import Derived.Test.YtoafdomlefoenaaN3
set_option linter.unusedVariables false
set_option linter.unusedSimpArgs false
set_option maxRecDepth 20000
namespace Go.Flat
open Go.Proofs
variable {G : Glob}
def Zif (k : Kept) : Kept × Int := (k, if Za6 k then 0 else 140)
theorem Zin {k : Kept} (h : Za6 k) : Zif k = (k, 0) := by unfold Zif; rw [if_pos h]
theorem Zei {k : Kept} (h : ¬ Za6 k) : Zif k = (k, 140) := by unfold Zif; rw [if_neg h]
def Zax (k : Kept) (r : Rec) : Kept × Int :=
  if r.kind = 1 then (if r.epoch < k.epoch then (k, 140) else Zif ⟨r.epoch, k.log, k.items, k.claims⟩) else
  if r.kind = 2 then (if r.item.epoch = k.log ∧ Zd1 k.items k.items.length r.item = 0 then Zif ⟨k.epoch, k.log, k.items ++ [r.item], k.claims⟩ else (k, 140)) else
  if r.epoch < k.epoch then (k, 140) else if (k.items.length : Int) < r.from_ then (k, 141) else Zif ⟨r.epoch, r.epoch, k.items.take r.from_.toNat ++ r.items, k.claims⟩
section
variable {k : Kept} {r : Rec}
theorem Zdi (h : r.kind = 1) (h1 : r.epoch < k.epoch) : Zax k r = (k, 140) := by unfold Zax; rw [if_pos h, if_pos h1]
theorem Zco (h : r.kind = 1) (h1 : ¬ r.epoch < k.epoch) : Zax k r = Zif ⟨r.epoch, k.log, k.items, k.claims⟩ := by unfold Zax; rw [if_pos h, if_neg h1]
theorem Zdj (h : r.kind = 2) (h1 : ¬ (r.item.epoch = k.log ∧ Zd1 k.items k.items.length r.item = 0)) : Zax k r = (k, 140) := by unfold Zax; rw [if_neg (by omega), if_pos h, if_neg h1]
theorem Zcp (h : r.kind = 2) (h1 : r.item.epoch = k.log) (h2 : Zd1 k.items k.items.length r.item = 0) : Zax k r = Zif ⟨k.epoch, k.log, k.items ++ [r.item], k.claims⟩ := by unfold Zax; rw [if_neg (by omega), if_pos h, if_pos ⟨h1, h2⟩]
theorem Zdk (h : r.kind = 3) (h1 : r.epoch < k.epoch) : Zax k r = (k, 140) := by unfold Zax; rw [if_neg (by omega), if_neg (by omega), if_pos h1]
theorem Zdl (h : r.kind = 3) (h1 : ¬ r.epoch < k.epoch) (h2 : (k.items.length : Int) < r.from_) : Zax k r = (k, 141) := by unfold Zax; rw [if_neg (by omega), if_neg (by omega), if_neg h1, if_pos h2]
theorem Zcq (h : r.kind = 3) (h1 : ¬ r.epoch < k.epoch) (h2 : ¬ (k.items.length : Int) < r.from_) : Zax k r = Zif ⟨r.epoch, r.epoch, k.items.take r.from_.toNat ++ r.items, k.claims⟩ := by unfold Zax; rw [if_neg (by omega), if_neg (by omega), if_neg h1, if_neg h2]
end
def Zdu (k : Kept) (r : Rec) : Kept × Int :=
  if Za6 k then (if Zaw r then (if (Zax k r).2 = 0 then ((Zax k r).1, 0) else (⟨0, 0, [], []⟩, (Zax k r).2)) else (⟨0, 0, [], []⟩, 140)) else (⟨0, 0, [], []⟩, 1)
section
variable {k : Kept} {r : Rec}
theorem Zzp (h : ¬ Za6 k) : Zdu k r = (⟨0, 0, [], []⟩, 1) := if_neg h
theorem Zzq (h : Za6 k) (h1 : ¬ Zaw r) : Zdu k r = (⟨0, 0, [], []⟩, 140) := by unfold Zdu; rw [if_pos h, if_neg h1]
theorem Zzr (h : Za6 k) (h1 : Zaw r) (h2 : ¬ (Zax k r).2 = 0) : Zdu k r = (⟨0, 0, [], []⟩, (Zax k r).2) := by unfold Zdu; rw [if_pos h, if_pos h1, if_neg h2]
theorem Zr1 : (Zax k r).1.claims = k.claims := by
 unfold Zax Zif
 split
 ·split <;> rfl
 ·split
  ·split <;> rfl
  ·split
   ·rfl
   ·split <;> rfl
theorem Zx7 (h : Za6 k) (h1 : Zaw r) (h2 : (Zax k r).2 = 0) : Zdu k r = ((Zax k r).1, 0) := by unfold Zdu; rw [if_pos h, if_pos h1, if_pos h2]
theorem Zzs (h : Za6 k) (h1 : Zaw r) (h2 : (Zax k r).2 = 0) : Zdu k r = (⟨(Zax k r).1.epoch, (Zax k r).1.log, (Zax k r).1.items, k.claims⟩, 0) := by rw [Zx7 h h1 h2, ← Zr1 (r := r)]
end
abbrev Y11 (k : Kept) : Blk := mxB 4 ([Iv k.epoch, Iv k.log, slv 1 0 k.items.length k.items.length, slv 2 0 k.claims.length k.claims.length])
abbrev Y12 (r : Rec) (p : Nat) (q : Nat) : Blk := mxB 150 ([Iv r.kind, Iv r.epoch, Iv r.from_] ++ (Z1 r.item ++ ([slv 3 0 p q] ++ (Zr r.claim))))
abbrev Y13 (k : Kept) (r : Rec) : Blk := mxB 4 ([Iv r.epoch, Iv k.log, slv 1 0 k.items.length k.items.length, slv 2 0 k.claims.length k.claims.length])
theorem Zx8 (k : Kept) (r : Rec) (p q : Nat) (hp : r.items.length = p) (hq : p ≤ q) (hpb : p ≤ 100000) (hb : k.items.length ≤ 100000) (hb2 : k.claims.length ≤ 1048576) (hk1 : 1 ≤ r.kind) (hk3 : r.kind ≤ 3) (hf : r.kind = 3 → 0 ≤ r.from_ ∧ r.from_ ≤ 2000) : Zat Try.prog G 39 [pt 0 0, mxV ([Iv r.kind, Iv r.epoch, Iv r.from_] ++ (Z1 r.item ++ ([slv 3 0 p q] ++ (Zr r.claim))))] [mxB 4 ([Iv k.epoch, Iv k.log, slv 1 0 k.items.length k.items.length, slv 2 0 k.claims.length k.claims.length]), rwB Zj k.items, rwR Zh k.claims, rwR Zj r.items] (Iv (Zax k r).2) [mxB 4 ([Iv ((Zax k r).1.epoch), Iv ((Zax k r).1.log), slv 1 0 ((Zax k r).1.items.length) ((Zax k r).1.items.length), slv 2 0 k.claims.length k.claims.length]), rwB Zj (Zax k r).1.items, rwR Zh k.claims, rwR Zj r.items] := by
  refine Zcg (fn := Try.f39) (nt := 134) rfl rfl rfl rfl ?_
  refine Za8 2 (H' := [Y11 k, rwB Zj k.items, rwR Zh k.claims, rwR Zj r.items, hole, hole]) rfl ?_
  refine Zi (Zm (Zbn (v := mxV ([Iv r.kind, Iv r.epoch, Iv r.from_] ++ (Z1 r.item ++ ([slv 3 0 p q] ++ (Zr r.claim))))) (b := mxB 150 ([Iv r.kind, Iv r.epoch, Iv r.from_] ++ (Z1 r.item ++ ([slv 3 0 p q] ++ (Zr r.claim))))) (nid := 4) (H' := [Y11 k, rwB Zj k.items, rwR Zh k.claims, rwR Zj r.items, Y12 r p q, hole]) (Zc (Iv 0) (Zd (Ze (Zi (Zi (Zm (Zf (b := 4) (o := 0) (n := 0) (o' := 0) (Zl (p := pt 4 0) (v := Iv r.kind) (Zd (Ze (Zav (Zi (Zm ?_)))))))))))))))
  by_cases h1 : r.kind = 1
  refine Zn (vx := Iv r.kind) (vy := Iv 1) rfl rfl (.bool true) rfl rfl (Zaj (by omega)) ?_
  refine Zc (.bool true) (Zd (Ze (Z4 rfl (Zi (Zi ?_)))))
  refine Zek (by kernel_rfl) ?_
  refine Zf (b := 4) (o := 0) (n := 1) (o' := 1) (Zl (p := pt 4 1) (v := Iv r.epoch) (Zb (pt 0 0) (Zbl (p := pt 0 0) (v := pt 0 0) (Zf (b := 0) (o := 0) (n := 0) (o' := 0) (Zf (b := 0) (o := 0) (n := 0) (o' := 0) (Zl (p := pt 0 0) (v := Iv k.epoch) ?_))))))
  by_cases h2 : r.epoch < k.epoch
  refine Zn (vx := Iv r.epoch) (vy := Iv k.epoch) rfl rfl (.bool true) rfl rfl (Zdq (by omega)) ?_
  refine Zbv (Za4 [[], [0], [], [2], [2, 3], [2, 3, 4], [2, 3, 4, 5], [0, 1, 2, 3, 4, 5, 6]] (by kernel_rfl) (by kernel_rfl)) ?_
  refine Ze (Z4 rfl (Zi (Zm (Zc (Iv 140) (Zd (Ze (Zs (Zv (Zy (Zv (Zq ?_)))))))))))
  rw [show Zax k r = ((⟨k.epoch, k.log, k.items, k.claims⟩ : Kept), 140) from by first | exact Zdi (by omega) (by omega) | exact Zdj (by omega) (by omega) | exact Zdk (by omega) (by omega) | exact Zdl (by omega) (by omega) (by omega) | exact (Zco (by omega) (by omega)).trans (Zei (Zby (by omega))) | exact (Zcp (by omega) (by omega) (by omega)).trans (Zei (Zby (by omega))) | exact (Zcq (by omega) (by omega) (by omega)).trans (Zei (Zby (by omega)))]
  exact Zk (v := Iv 140) rfl rfl rfl (by kernel_rfl) rfl
  refine Zn (vx := Iv r.epoch) (vy := Iv k.epoch) rfl rfl (.bool false) rfl rfl (Zdp (by omega)) ?_
  refine Zbv (Za4 [[], [0], [], [2], [2, 3], [2, 3, 4], [2, 3, 4, 5], [0, 1, 2, 3, 4, 5, 6]] (by kernel_rfl) (by kernel_rfl)) ?_
  refine Ze (Zz rfl (Z9 (Ze (Zm (Zb (pt 0 0) (Zf (b := 4) (o := 0) (n := 1) (o' := 1) (Zl (p := pt 4 1) (v := Iv r.epoch) (Zbl (p := pt 0 0) (v := pt 0 0) (Zf (b := 0) (o := 0) (n := 0) (o' := 0) (Zf (b := 0) (o := 0) (n := 0) (o' := 0) (Z5 (p := pt 0 0) (v := Iv r.epoch) (b := 0) (blk := mxB 4 ([Iv r.epoch, Iv k.log, slv 1 0 k.items.length k.items.length, slv 2 0 k.claims.length k.claims.length])) (H' := [Y13 k r, rwB Zj k.items, rwR Zh k.claims, rwR Zj r.items, Y12 r p q, hole]) (Zd (Z7 (Ze (Zi (Zi (Zm (Zb (pt 0 0) (Zbl (p := pt 0 0) (v := pt 0 0) (Zf (b := 0) (o := 0) (n := 0) (o' := 0) ?_))))))))))))))))))))
  refine Zl (p := pt 0 0) (v := mxV ([Iv r.epoch, Iv k.log, slv 1 0 k.items.length k.items.length, slv 2 0 k.claims.length k.claims.length])) ?_
  refine Zab (e := [some (1, 0), some (2, 0)]) (nid := 0) (Ze5 (G := G) (⟨r.epoch, k.log, k.items, k.claims⟩ : Kept) k.items.length k.items.length k.claims.length k.claims.length rfl rfl (by omega) (by omega) (by omega) (by omega)) (vals := [mxV ([Iv r.epoch, Iv k.log, slv 1 0 k.items.length k.items.length, slv 2 0 k.claims.length k.claims.length])]) (v := Iv (Zd8 (⟨r.epoch, k.log, k.items, k.claims⟩ : Kept))) (H' := [Y13 k r, rwB Zj k.items, rwR Zh k.claims, rwR Zj r.items, Y12 r p q, hole]) rfl rfl rfl rfl rfl rfl rfl ⟨⟨(Zah (by kernel_rfl) ⟨⟨rfl, rfl⟩, ⟨rfl, rfl⟩, ⟨rfl, rfl, rfl, by first | omega | exact Nat.le_refl _, by first | omega | exact Nat.le_refl _⟩, ⟨rfl, rfl, rfl, by first | omega | exact Nat.le_refl _, by first | omega | exact Nat.le_refl _⟩, trivial⟩), trivial⟩, ⟨(Zbd rfl), (Zaf rfl), trivial⟩, rfl, rfl, rfl⟩ rfl (by kernel_rfl) ?_
  by_cases h3 : (Zd8 (⟨r.epoch, k.log, k.items, k.claims⟩ : Kept)) ≠ 0
  refine Zn (vx := Iv (Zd8 (⟨r.epoch, k.log, k.items, k.claims⟩ : Kept))) (vy := Iv 0) rfl rfl (.bool true) rfl rfl (Zd5 (by omega)) ?_
  refine Zd (Ze (Z4 rfl (Zi (Zm (Zc (Iv 140) (Zd (Ze (Zs (Zv (Zq ?_))))))))))
  rw [show Zax k r = ((⟨r.epoch, k.log, k.items, k.claims⟩ : Kept), 140) from by first | exact Zdi (by omega) (by omega) | exact Zdj (by omega) (by omega) | exact Zdk (by omega) (by omega) | exact Zdl (by omega) (by omega) (by omega) | exact (Zco (by omega) (by omega)).trans (Zei (Zby (by omega))) | exact (Zcp (by omega) (by omega) (by omega)).trans (Zei (Zby (by omega))) | exact (Zcq (by omega) (by omega) (by omega)).trans (Zei (Zby (by omega)))]
  exact Zk (v := Iv 140) rfl rfl rfl (by kernel_rfl) rfl
  refine Zn (vx := Iv (Zd8 (⟨r.epoch, k.log, k.items, k.claims⟩ : Kept))) (vy := Iv 0) rfl rfl (.bool false) rfl rfl (Zd4 (by omega)) ?_
  refine Zd (Ze (Zz rfl (Z9 (Ze (Zi (Zm (Zc (Iv 0) (Zd (Ze (Zs (Zq ?_)))))))))))
  rw [show Zax k r = ((⟨r.epoch, k.log, k.items, k.claims⟩ : Kept), 0) from by first | exact (Zco (by omega) (by omega)).trans (Zin (Zcs (by omega))) | exact (Zcp (by omega) (by omega) (by omega)).trans (Zin (Zcs (by omega))) | exact (Zcq (by omega) (by omega) (by omega)).trans (Zin (Zcs (by omega)))]
  exact Zk (v := Iv 0) rfl rfl rfl (by kernel_rfl) rfl
  refine Zn (vx := Iv r.kind) (vy := Iv 1) rfl rfl (.bool false) rfl rfl (Zaq (by omega)) ?_
  refine Zc (.bool false) (Zd (Ze (Zz rfl (Zi (Zm ?_)))))
  by_cases h4 : r.kind = 2
  refine Zn (vx := Iv r.kind) (vy := Iv 2) rfl rfl (.bool true) rfl rfl (Zaj (by omega)) ?_
  refine Zc (.bool true) (Zd (Ze (Z4 rfl (Zi (Zi ?_)))))
  refine Zel (by kernel_rfl) ?_
  refine Zf (b := 4) (o := 0) (n := 3) (o' := 3) (Zf (b := 4) (o := 3) (n := 0) (o' := 3) (Zl (p := pt 4 3) (v := Iv r.item.epoch) (Zb (pt 0 0) (Zbl (p := pt 0 0) (v := pt 0 0) (Zf (b := 0) (o := 0) (n := 0) (o' := 0) (Zf (b := 0) (o := 0) (n := 1) (o' := 1) (Zl (p := pt 0 1) (v := Iv k.log) ?_)))))))
  by_cases h5 : r.item.epoch ≠ k.log
  refine Zn (vx := Iv r.item.epoch) (vy := Iv k.log) rfl rfl (.bool true) rfl rfl (Zd5 (by omega)) ?_
  refine Zb (.bool true) (Za (Za (Za (Za (Za (Za (Za (Za (Za (Zg (.bool true) ?_))))))))))
  refine Zb6 (Zay [[], [0], [0, 1], [], [3], [3, 4], [3, 4, 5], [3, 4, 5, 6], [0, 1, 2, 3, 4, 5, 6, 7], [0, 1, 2, 3, 4, 5, 6, 7, 8], [0, 1, 2, 3, 4, 5, 6, 7, 8, 9], [0, 1, 2, 3, 4, 5, 6, 7, 8, 9, 10], [0, 1, 2, 3, 4, 5, 6, 7, 8, 9, 10, 11], [0, 1, 2, 3, 4, 5, 6, 7, 8, 9, 10, 11, 12], [0, 1, 2, 3, 4, 5, 6, 7, 8, 9, 10, 11, 12, 13], [0, 1, 2, 3, 4, 5, 6, 7, 8, 9], [0, 1, 2, 3, 4, 5, 6, 7, 8, 9, 15], [0, 1, 2, 3, 4, 5, 6, 7, 8, 9, 10, 11, 12, 13, 14, 15, 16], [0, 1, 2, 3, 4, 5, 6, 7, 8, 9, 10, 11, 12, 13, 14, 15, 16, 17], [0, 1, 2, 3, 4, 5, 6, 7, 8, 9, 10, 11, 12, 13, 14, 15, 16, 17, 18]] (by kernel_rfl) (by kernel_rfl)) ?_
  refine Ze (Z4 rfl (Zi (Zm (Zc (Iv 140) (Zd (Ze (Zs (Zv (Zy (Zv (Zq ?_)))))))))))
  rw [show Zax k r = ((⟨k.epoch, k.log, k.items, k.claims⟩ : Kept), 140) from by first | exact Zdi (by omega) (by omega) | exact Zdj (by omega) (by omega) | exact Zdk (by omega) (by omega) | exact Zdl (by omega) (by omega) (by omega) | exact (Zco (by omega) (by omega)).trans (Zei (Zby (by omega))) | exact (Zcp (by omega) (by omega) (by omega)).trans (Zei (Zby (by omega))) | exact (Zcq (by omega) (by omega) (by omega)).trans (Zei (Zby (by omega)))]
  exact Zk (v := Iv 140) rfl rfl rfl (by kernel_rfl) rfl
  refine Zn (vx := Iv r.item.epoch) (vy := Iv k.log) rfl rfl (.bool false) rfl rfl (Zd4 (by omega)) ?_
  refine Zb (.bool false) (Zb (pt 0 0) (Zbl (p := pt 0 0) (v := pt 0 0) (Zf (b := 0) (o := 0) (n := 0) (o' := 0) (Zf (b := 0) (o := 0) (n := 2) (o' := 2) (Zl (p := pt 0 2) (v := slv 1 0 k.items.length k.items.length) (Zf (b := 4) (o := 0) (n := 3) (o' := 3) (Zl (p := pt 4 3) (v := Zal r.item) ?_)))))))
  refine Zab (e := [some (1, 0)]) (nid := 0) (Zze (G := G) k.items k.items.length k.items.length rfl (by omega) (by omega) r.item) (vals := [slv 1 0 k.items.length k.items.length, Zal r.item]) (v := Iv (Zd1 k.items k.items.length r.item)) (H' := [Y11 k, rwB Zj k.items, rwR Zh k.claims, rwR Zj r.items, Y12 r p q, hole]) rfl rfl rfl rfl rfl rfl rfl ⟨⟨⟨rfl, rfl, rfl, by first | omega | exact Nat.le_refl _, by first | omega | exact Nat.le_refl _⟩, rfl, trivial⟩, ⟨(Zbd rfl), trivial⟩, rfl, rfl, rfl⟩ rfl (by kernel_rfl) ?_
  by_cases h6 : (Zd1 k.items k.items.length r.item) ≠ 0
  refine Zn (vx := Iv (Zd1 k.items k.items.length r.item)) (vy := Iv 0) rfl rfl (.bool true) rfl rfl (Zd5 (by omega)) ?_
  refine Zg (.bool true) ?_
  refine Zb6 (Zay [[], [0], [0, 1], [], [3], [3, 4], [3, 4, 5], [3, 4, 5, 6], [0, 1, 2, 3, 4, 5, 6, 7], [0, 1, 2, 3, 4, 5, 6, 7, 8], [0, 1, 2, 3, 4, 5, 6, 7, 8, 9], [0, 1, 2, 3, 4, 5, 6, 7, 8, 9, 10], [0, 1, 2, 3, 4, 5, 6, 7, 8, 9, 10, 11], [0, 1, 2, 3, 4, 5, 6, 7, 8, 9, 10, 11, 12], [0, 1, 2, 3, 4, 5, 6, 7, 8, 9, 10, 11, 12, 13], [0, 1, 2, 3, 4, 5, 6, 7, 8, 9], [0, 1, 2, 3, 4, 5, 6, 7, 8, 9, 15], [0, 1, 2, 3, 4, 5, 6, 7, 8, 9, 10, 11, 12, 13, 14, 15, 16], [0, 1, 2, 3, 4, 5, 6, 7, 8, 9, 10, 11, 12, 13, 14, 15, 16, 17], [0, 1, 2, 3, 4, 5, 6, 7, 8, 9, 10, 11, 12, 13, 14, 15, 16, 17, 18]] (by kernel_rfl) (by kernel_rfl)) ?_
  refine Ze (Z4 rfl (Zi (Zm (Zc (Iv 140) (Zd (Ze (Zs (Zv (Zy (Zv (Zq ?_)))))))))))
  rw [show Zax k r = ((⟨k.epoch, k.log, k.items, k.claims⟩ : Kept), 140) from by first | exact Zdi (by omega) (by omega) | exact Zdj (by omega) (by omega) | exact Zdk (by omega) (by omega) | exact Zdl (by omega) (by omega) (by omega) | exact (Zco (by omega) (by omega)).trans (Zei (Zby (by omega))) | exact (Zcp (by omega) (by omega) (by omega)).trans (Zei (Zby (by omega))) | exact (Zcq (by omega) (by omega) (by omega)).trans (Zei (Zby (by omega)))]
  exact Zk (v := Iv 140) rfl rfl rfl (by kernel_rfl) rfl
  refine Zn (vx := Iv (Zd1 k.items k.items.length r.item)) (vy := Iv 0) rfl rfl (.bool false) rfl rfl (Zd4 (by omega)) ?_
  refine Zg (.bool false) ?_
  refine Zb6 (Zay [[], [0], [0, 1], [], [3], [3, 4], [3, 4, 5], [3, 4, 5, 6], [0, 1, 2, 3, 4, 5, 6, 7], [0, 1, 2, 3, 4, 5, 6, 7, 8], [0, 1, 2, 3, 4, 5, 6, 7, 8, 9], [0, 1, 2, 3, 4, 5, 6, 7, 8, 9, 10], [0, 1, 2, 3, 4, 5, 6, 7, 8, 9, 10, 11], [0, 1, 2, 3, 4, 5, 6, 7, 8, 9, 10, 11, 12], [0, 1, 2, 3, 4, 5, 6, 7, 8, 9, 10, 11, 12, 13], [0, 1, 2, 3, 4, 5, 6, 7, 8, 9], [0, 1, 2, 3, 4, 5, 6, 7, 8, 9, 15], [0, 1, 2, 3, 4, 5, 6, 7, 8, 9, 10, 11, 12, 13, 14, 15, 16], [0, 1, 2, 3, 4, 5, 6, 7, 8, 9, 10, 11, 12, 13, 14, 15, 16, 17], [0, 1, 2, 3, 4, 5, 6, 7, 8, 9, 10, 11, 12, 13, 14, 15, 16, 17, 18]] (by kernel_rfl) (by kernel_rfl)) ?_
  refine Ze (Zz rfl (Z9 (Ze ?_)))
  refine Zel (by kernel_rfl) ?_
  refine Zb (pt 0 0) (Zb (pt 0 0) (Zbl (p := pt 0 0) (v := pt 0 0) (Zf (b := 0) (o := 0) (n := 0) (o' := 0) (Zf (b := 0) (o := 0) (n := 2) (o' := 2) (Zl (p := pt 0 2) (v := slv 1 0 k.items.length k.items.length) (Zf (b := 4) (o := 0) (n := 3) (o' := 3) (Zl (p := pt 4 3) (v := Zal r.item) ?_)))))))
  refine Zgl (vs := [(0, Zal r.item)]) (v := slv 5 0 1 1) (blk := rwB Zj [r.item]) (nid := 5) (H' := [Y11 k, rwB Zj k.items, rwR Zh k.claims, rwR Zj r.items, Y12 r p q, rwB Zj [r.item]]) rfl rfl rfl (by kernel_rfl) (by kernel_rfl) ?_
  have hl3 : (k.items ++ [r.item]).length = k.items.length + 1 := by have := (rfl : _ = 1); first | (rw [List.length_append]; omega) | (rw [List.length_append, List.length_take]; omega) | (simp; omega) | simp
  refine Zc1 (p := slv 1 0 k.items.length k.items.length) (q := slv 5 0 1 1) (v := slv 1 0 ((k.items ++ [r.item]).length) ((k.items ++ [r.item]).length)) (b := 1) (blk := rwB Zj (k.items ++ [r.item])) (H' := [mxB 4 ([Iv k.epoch, Iv k.log, dead, slv 2 0 k.claims.length k.claims.length]), rwB Zj (k.items ++ [r.item]), rwR Zh k.claims, rwR Zj r.items, Y12 r p q, rwB Zj [r.item]]) rfl rfl rfl (.inl ⟨_, rfl⟩) rfl rfl (Zds Zj (by_ := 216) (k := 1) (n' := ((k.items ++ [r.item]).length)) (ms := [r.item]) (fun _ => rfl) rfl rfl (by kernel_rfl) rfl rfl (by omega) (by omega) (by decide) (by omega)) rfl (by kernel_rfl) ?_
  refine Zbl (p := pt 0 0) (v := pt 0 0) (Zf (b := 0) (o := 0) (n := 0) (o' := 0) (Zf (b := 0) (o := 0) (n := 2) (o' := 2) (Z5 (p := pt 0 2) (v := slv 1 0 ((k.items ++ [r.item]).length) ((k.items ++ [r.item]).length)) (b := 0) (blk := mxB 4 ([Iv k.epoch, Iv k.log, slv 1 0 ((k.items ++ [r.item]).length) ((k.items ++ [r.item]).length), slv 2 0 k.claims.length k.claims.length])) (H' := [mxB 4 ([Iv k.epoch, Iv k.log, slv 1 0 ((k.items ++ [r.item]).length) ((k.items ++ [r.item]).length), slv 2 0 k.claims.length k.claims.length]), rwB Zj (k.items ++ [r.item]), rwR Zh k.claims, rwR Zj r.items, Y12 r p q, rwB Zj [r.item]]) ?_)))
  refine Zb6 (Zay [[], [], [1], [1, 2], [1, 2, 3], [1, 2, 3, 4], [], [6], [6, 7], [1, 2, 3, 4, 5, 6, 7, 8], [0, 1, 2, 3, 4, 5, 6, 7, 8, 9], [0, 1, 2, 3, 4, 5, 6, 7, 8, 9, 10], [0, 1, 2, 3, 4, 5, 6, 7, 8, 9, 10, 11], [0, 1, 2, 3, 4, 5, 6, 7, 8, 9, 10, 11, 12]] (by kernel_rfl) (by kernel_rfl)) ?_
  refine Z7 (Ze (Zi (Zi (Zm (Zb (pt 0 0) (Zbl (p := pt 0 0) (v := pt 0 0) (Zf (b := 0) (o := 0) (n := 0) (o' := 0) (Zl (p := pt 0 0) (v := mxV ([Iv k.epoch, Iv k.log, slv 1 0 ((k.items ++ [r.item]).length) ((k.items ++ [r.item]).length), slv 2 0 k.claims.length k.claims.length])) ?_))))))))
  refine Zab (e := [some (1, 0), some (2, 0)]) (nid := 0) (Ze5 (G := G) (⟨k.epoch, k.log, (k.items ++ [r.item]), k.claims⟩ : Kept) ((k.items ++ [r.item]).length) ((k.items ++ [r.item]).length) k.claims.length k.claims.length rfl rfl (by omega) (by omega) (by omega) (by omega)) (vals := [mxV ([Iv k.epoch, Iv k.log, slv 1 0 ((k.items ++ [r.item]).length) ((k.items ++ [r.item]).length), slv 2 0 k.claims.length k.claims.length])]) (v := Iv (Zd8 (⟨k.epoch, k.log, (k.items ++ [r.item]), k.claims⟩ : Kept))) (H' := [mxB 4 ([Iv k.epoch, Iv k.log, slv 1 0 ((k.items ++ [r.item]).length) ((k.items ++ [r.item]).length), slv 2 0 k.claims.length k.claims.length]), rwB Zj (k.items ++ [r.item]), rwR Zh k.claims, rwR Zj r.items, Y12 r p q, rwB Zj [r.item]]) rfl rfl rfl rfl rfl rfl rfl ⟨⟨(Zah (by kernel_rfl) ⟨⟨rfl, rfl⟩, ⟨rfl, rfl⟩, ⟨rfl, rfl, rfl, by first | omega | exact Nat.le_refl _, by first | omega | exact Nat.le_refl _⟩, ⟨rfl, rfl, rfl, by first | omega | exact Nat.le_refl _, by first | omega | exact Nat.le_refl _⟩, trivial⟩), trivial⟩, ⟨(Zbd rfl), (Zaf rfl), trivial⟩, rfl, rfl, rfl⟩ rfl (by kernel_rfl) ?_
  by_cases h7 : (Zd8 (⟨k.epoch, k.log, (k.items ++ [r.item]), k.claims⟩ : Kept)) ≠ 0
  refine Zn (vx := Iv (Zd8 (⟨k.epoch, k.log, (k.items ++ [r.item]), k.claims⟩ : Kept))) (vy := Iv 0) rfl rfl (.bool true) rfl rfl (Zd5 (by omega)) ?_
  refine Zd (Ze (Z4 rfl (Zi (Zm (Zc (Iv 140) (Zd (Ze (Zs (Zv (Zq ?_))))))))))
  rw [show Zax k r = ((⟨k.epoch, k.log, (k.items ++ [r.item]), k.claims⟩ : Kept), 140) from by first | exact Zdi (by omega) (by omega) | exact Zdj (by omega) (by omega) | exact Zdk (by omega) (by omega) | exact Zdl (by omega) (by omega) (by omega) | exact (Zco (by omega) (by omega)).trans (Zei (Zby (by omega))) | exact (Zcp (by omega) (by omega) (by omega)).trans (Zei (Zby (by omega))) | exact (Zcq (by omega) (by omega) (by omega)).trans (Zei (Zby (by omega)))]
  exact Zk (v := Iv 140) rfl rfl rfl (by kernel_rfl) rfl
  refine Zn (vx := Iv (Zd8 (⟨k.epoch, k.log, (k.items ++ [r.item]), k.claims⟩ : Kept))) (vy := Iv 0) rfl rfl (.bool false) rfl rfl (Zd4 (by omega)) ?_
  refine Zd (Ze (Zz rfl (Z9 (Ze (Zi (Zm (Zc (Iv 0) (Zd (Ze (Zs (Zq ?_)))))))))))
  rw [show Zax k r = ((⟨k.epoch, k.log, (k.items ++ [r.item]), k.claims⟩ : Kept), 0) from by first | exact (Zco (by omega) (by omega)).trans (Zin (Zcs (by omega))) | exact (Zcp (by omega) (by omega) (by omega)).trans (Zin (Zcs (by omega))) | exact (Zcq (by omega) (by omega) (by omega)).trans (Zin (Zcs (by omega)))]
  exact Zk (v := Iv 0) rfl rfl rfl (by kernel_rfl) rfl
  refine Zn (vx := Iv r.kind) (vy := Iv 2) rfl rfl (.bool false) rfl rfl (Zaq (by omega)) ?_
  refine Zc (.bool false) (Zd (Ze (Zz rfl (Zi (Zm ?_)))))
  refine Zn (vx := Iv r.kind) (vy := Iv 3) rfl rfl (.bool true) rfl rfl (Zaj (by omega)) ?_
  refine Zc (.bool true) (Zd (Ze (Z4 rfl (Zi (Zav (Zi ?_))))))
  obtain ⟨hfr0, hfr1⟩ := hf (by omega)
  refine Zek (by kernel_rfl) ?_
  refine Zf (b := 4) (o := 0) (n := 1) (o' := 1) (Zl (p := pt 4 1) (v := Iv r.epoch) (Zb (pt 0 0) (Zbl (p := pt 0 0) (v := pt 0 0) (Zf (b := 0) (o := 0) (n := 0) (o' := 0) (Zf (b := 0) (o := 0) (n := 0) (o' := 0) (Zl (p := pt 0 0) (v := Iv k.epoch) ?_))))))
  by_cases h8 : r.epoch < k.epoch
  refine Zn (vx := Iv r.epoch) (vy := Iv k.epoch) rfl rfl (.bool true) rfl rfl (Zdq (by omega)) ?_
  refine Zc (.bool true) ?_
  refine Zbv (Za4 [[], [0], [], [2], [2, 3], [2, 3, 4], [2, 3, 4, 5], [0, 1, 2, 3, 4, 5, 6], [0, 1, 2, 3, 4, 5, 6, 7]] (by kernel_rfl) (by kernel_rfl)) ?_
  refine Ze (Z4 rfl (Zi (Zm (Zc (Iv 140) (Zd (Ze (Zs (Zy (Zv (Zy (Zv (Zq ?_))))))))))))
  rw [show Zax k r = ((⟨k.epoch, k.log, k.items, k.claims⟩ : Kept), 140) from by first | exact Zdi (by omega) (by omega) | exact Zdj (by omega) (by omega) | exact Zdk (by omega) (by omega) | exact Zdl (by omega) (by omega) (by omega) | exact (Zco (by omega) (by omega)).trans (Zei (Zby (by omega))) | exact (Zcp (by omega) (by omega) (by omega)).trans (Zei (Zby (by omega))) | exact (Zcq (by omega) (by omega) (by omega)).trans (Zei (Zby (by omega)))]
  exact Zk (v := Iv 140) rfl rfl rfl (by kernel_rfl) rfl
  refine Zn (vx := Iv r.epoch) (vy := Iv k.epoch) rfl rfl (.bool false) rfl rfl (Zdp (by omega)) ?_
  refine Zc (.bool false) ?_
  refine Zbv (Za4 [[], [0], [], [2], [2, 3], [2, 3, 4], [2, 3, 4, 5], [0, 1, 2, 3, 4, 5, 6], [0, 1, 2, 3, 4, 5, 6, 7]] (by kernel_rfl) (by kernel_rfl)) ?_
  refine Ze (Zz rfl (Zi ?_))
  refine Zek (by kernel_rfl) ?_
  refine Zf (b := 4) (o := 0) (n := 2) (o' := 2) (Zl (p := pt 4 2) (v := Iv r.from_) (Zb (pt 0 0) (Zbl (p := pt 0 0) (v := pt 0 0) (Zf (b := 0) (o := 0) (n := 0) (o' := 0) (Zf (b := 0) (o := 0) (n := 2) (o' := 2) (Zl (p := pt 0 2) (v := slv 1 0 k.items.length k.items.length) (Zbg (p := slv 1 0 k.items.length k.items.length) (v := Iv (k.items.length : Nat)) ?_)))))))
  by_cases h9 : (k.items.length : Nat) < r.from_
  refine Zn (vx := Iv r.from_) (vy := Iv (k.items.length : Nat)) rfl rfl (.bool true) rfl rfl (Zfe (by omega)) ?_
  refine Zc (.bool true) ?_
  refine Zbv (Za4 [[], [0], [], [2], [2, 3], [2, 3, 4], [2, 3, 4, 5], [2, 3, 4, 5, 6], [0, 1, 2, 3, 4, 5, 6, 7], [0, 1, 2, 3, 4, 5, 6, 7, 8]] (by kernel_rfl) (by kernel_rfl)) ?_
  refine Ze (Z4 rfl (Zi (Zm (Zc (Iv 141) (Zd (Ze (Zs (Zy (Zv (Zy (Zv (Zq ?_))))))))))))
  rw [show Zax k r = ((⟨k.epoch, k.log, k.items, k.claims⟩ : Kept), 141) from by first | exact Zdi (by omega) (by omega) | exact Zdj (by omega) (by omega) | exact Zdk (by omega) (by omega) | exact Zdl (by omega) (by omega) (by omega) | exact (Zco (by omega) (by omega)).trans (Zei (Zby (by omega))) | exact (Zcp (by omega) (by omega) (by omega)).trans (Zei (Zby (by omega))) | exact (Zcq (by omega) (by omega) (by omega)).trans (Zei (Zby (by omega)))]
  exact Zk (v := Iv 141) rfl rfl rfl (by kernel_rfl) rfl
  refine Zn (vx := Iv r.from_) (vy := Iv (k.items.length : Nat)) rfl rfl (.bool false) rfl rfl (Zfd (by omega)) ?_
  refine Zc (.bool false) ?_
  refine Zbv (Za4 [[], [0], [], [2], [2, 3], [2, 3, 4], [2, 3, 4, 5], [2, 3, 4, 5, 6], [0, 1, 2, 3, 4, 5, 6, 7], [0, 1, 2, 3, 4, 5, 6, 7, 8]] (by kernel_rfl) (by kernel_rfl)) ?_
  refine Ze (Zz rfl (Z9 (Z7 (Ze (Zi ?_)))))
  refine Zek (by kernel_rfl) ?_
  refine Zb (pt 0 0) (Zb (pt 0 0) (Zf (b := 4) (o := 0) (n := 1) (o' := 1) (Zl (p := pt 4 1) (v := Iv r.epoch) (Zf (b := 4) (o := 0) (n := 1) (o' := 1) (Zl (p := pt 4 1) (v := Iv r.epoch) (Zbl (p := pt 0 0) (v := pt 0 0) (Zf (b := 0) (o := 0) (n := 0) (o' := 0) (Zf (b := 0) (o := 0) (n := 0) (o' := 0) (Z5 (p := pt 0 0) (v := Iv r.epoch) (b := 0) (blk := mxB 4 ([Iv r.epoch, Iv k.log, slv 1 0 k.items.length k.items.length, slv 2 0 k.claims.length k.claims.length])) (H' := [Y13 k r, rwB Zj k.items, rwR Zh k.claims, rwR Zj r.items, Y12 r p q, hole]) (Zbl (p := pt 0 0) (v := pt 0 0) (Zf (b := 0) (o := 0) (n := 0) (o' := 0) ?_)))))))))))
  refine Zf (b := 0) (o := 0) (n := 1) (o' := 1) (Z5 (p := pt 0 1) (v := Iv r.epoch) (b := 0) (blk := mxB 4 ([Iv r.epoch, Iv r.epoch, slv 1 0 k.items.length k.items.length, slv 2 0 k.claims.length k.claims.length])) (H' := [mxB 4 ([Iv r.epoch, Iv r.epoch, slv 1 0 k.items.length k.items.length, slv 2 0 k.claims.length k.claims.length]), rwB Zj k.items, rwR Zh k.claims, rwR Zj r.items, Y12 r p q, hole]) ?_)
  refine Zbv (Za4 [[], [], [], [2], [], [4], [0, 2, 3], [0, 2, 3, 6], [0, 2, 3, 6, 7], [0, 2, 3, 6, 7, 8], [0, 1, 2, 3, 4, 5, 6, 7, 8, 9], [0, 1, 2, 3, 4, 5, 6, 7, 8, 9, 10], [0, 1, 2, 3, 4, 5, 6, 7, 8, 9, 10, 11], [0, 1, 2, 3, 4, 5, 6, 7, 8, 9, 10, 11, 12]] (by kernel_rfl) (by kernel_rfl)) ?_
  refine Ze ?_
  refine Zel (by kernel_rfl) ?_
  refine Zb (pt 0 0) (Zb (pt 0 0) (Zbl (p := pt 0 0) (v := pt 0 0) (Zf (b := 0) (o := 0) (n := 0) (o' := 0) (Zf (b := 0) (o := 0) (n := 2) (o' := 2) (Zl (p := pt 0 2) (v := slv 1 0 k.items.length k.items.length) (Zf (b := 4) (o := 0) (n := 2) (o' := 2) (Zl (p := pt 4 2) (v := Iv r.from_) ?_)))))))
  refine Zew (p := slv 1 0 k.items.length k.items.length) (vl := none) (vh := some (Iv r.from_)) (v := slv 1 0 r.from_.toNat k.items.length) rfl rfl rfl rfl rfl (Zkx (h := r.from_.toNat) rfl rfl (by omega) (by omega) rfl) ?_
  refine Zf (b := 4) (o := 0) (n := 113) (o' := 113) (Zl (p := pt 4 113) (v := slv 3 0 p q) ?_)
  have hl4 : (k.items.take r.from_.toNat ++ r.items).length = r.from_.toNat + p := by have := hp; first | (rw [List.length_append]; omega) | (rw [List.length_append, List.length_take]; omega) | (simp; omega) | simp
  refine Zc1 (p := slv 1 0 r.from_.toNat k.items.length) (q := slv 3 0 p q) (v := slv 1 0 ((k.items.take r.from_.toNat ++ r.items).length) ((k.items.take r.from_.toNat ++ r.items).length)) (b := 1) (blk := rwB Zj (k.items.take r.from_.toNat ++ r.items)) (H' := [mxB 4 ([Iv r.epoch, Iv r.epoch, dead, slv 2 0 k.claims.length k.claims.length]), rwB Zj (k.items.take r.from_.toNat ++ r.items), rwR Zh k.claims, rwR Zj r.items, Y12 r p q, hole]) rfl rfl rfl (.inl ⟨_, rfl⟩) rfl rfl (Zvq Zj (by_ := 216) (k := p) (n' := ((k.items.take r.from_.toNat ++ r.items).length)) (ms := r.items) (fun _ => rfl) rfl rfl (Zhu Zj rfl rfl (by have := hp; omega)) rfl rfl (by omega) (by omega) (by decide) (by omega)) rfl (by kernel_rfl) ?_
  refine Zbl (p := pt 0 0) (v := pt 0 0) (Zf (b := 0) (o := 0) (n := 0) (o' := 0) (Zf (b := 0) (o := 0) (n := 2) (o' := 2) (Z5 (p := pt 0 2) (v := slv 1 0 ((k.items.take r.from_.toNat ++ r.items).length) ((k.items.take r.from_.toNat ++ r.items).length)) (b := 0) (blk := mxB 4 ([Iv r.epoch, Iv r.epoch, slv 1 0 ((k.items.take r.from_.toNat ++ r.items).length) ((k.items.take r.from_.toNat ++ r.items).length), slv 2 0 k.claims.length k.claims.length])) (H' := [mxB 4 ([Iv r.epoch, Iv r.epoch, slv 1 0 ((k.items.take r.from_.toNat ++ r.items).length) ((k.items.take r.from_.toNat ++ r.items).length), slv 2 0 k.claims.length k.claims.length]), rwB Zj (k.items.take r.from_.toNat ++ r.items), rwR Zh k.claims, rwR Zj r.items, Y12 r p q, hole]) ?_)))
  refine Zb6 (Zay [[], [], [1], [1, 2], [1, 2, 3], [1, 2, 3, 4], [], [6], [1, 2, 3, 4, 5, 6, 7], [], [9], [1, 2, 3, 4, 5, 6, 7, 8, 9, 10], [0, 1, 2, 3, 4, 5, 6, 7, 8, 9, 10, 11], [0, 1, 2, 3, 4, 5, 6, 7, 8, 9, 10, 11, 12], [0, 1, 2, 3, 4, 5, 6, 7, 8, 9, 10, 11, 12, 13], [0, 1, 2, 3, 4, 5, 6, 7, 8, 9, 10, 11, 12, 13, 14]] (by kernel_rfl) (by kernel_rfl)) ?_
  refine Z7 (Ze (Zi (Zi (Zm (Zb (pt 0 0) (Zbl (p := pt 0 0) (v := pt 0 0) (Zf (b := 0) (o := 0) (n := 0) (o' := 0) (Zl (p := pt 0 0) (v := mxV ([Iv r.epoch, Iv r.epoch, slv 1 0 ((k.items.take r.from_.toNat ++ r.items).length) ((k.items.take r.from_.toNat ++ r.items).length), slv 2 0 k.claims.length k.claims.length])) ?_))))))))
  refine Zab (e := [some (1, 0), some (2, 0)]) (nid := 0) (Ze5 (G := G) (⟨r.epoch, r.epoch, (k.items.take r.from_.toNat ++ r.items), k.claims⟩ : Kept) ((k.items.take r.from_.toNat ++ r.items).length) ((k.items.take r.from_.toNat ++ r.items).length) k.claims.length k.claims.length rfl rfl (by omega) (by omega) (by omega) (by omega)) (vals := [mxV ([Iv r.epoch, Iv r.epoch, slv 1 0 ((k.items.take r.from_.toNat ++ r.items).length) ((k.items.take r.from_.toNat ++ r.items).length), slv 2 0 k.claims.length k.claims.length])]) (v := Iv (Zd8 (⟨r.epoch, r.epoch, (k.items.take r.from_.toNat ++ r.items), k.claims⟩ : Kept))) (H' := [mxB 4 ([Iv r.epoch, Iv r.epoch, slv 1 0 ((k.items.take r.from_.toNat ++ r.items).length) ((k.items.take r.from_.toNat ++ r.items).length), slv 2 0 k.claims.length k.claims.length]), rwB Zj (k.items.take r.from_.toNat ++ r.items), rwR Zh k.claims, rwR Zj r.items, Y12 r p q, hole]) rfl rfl rfl rfl rfl rfl rfl ⟨⟨(Zah (by kernel_rfl) ⟨⟨rfl, rfl⟩, ⟨rfl, rfl⟩, ⟨rfl, rfl, rfl, by first | omega | exact Nat.le_refl _, by first | omega | exact Nat.le_refl _⟩, ⟨rfl, rfl, rfl, by first | omega | exact Nat.le_refl _, by first | omega | exact Nat.le_refl _⟩, trivial⟩), trivial⟩, ⟨(Zbd rfl), (Zaf rfl), trivial⟩, rfl, rfl, rfl⟩ rfl (by kernel_rfl) ?_
  by_cases h10 : (Zd8 (⟨r.epoch, r.epoch, (k.items.take r.from_.toNat ++ r.items), k.claims⟩ : Kept)) ≠ 0
  refine Zn (vx := Iv (Zd8 (⟨r.epoch, r.epoch, (k.items.take r.from_.toNat ++ r.items), k.claims⟩ : Kept))) (vy := Iv 0) rfl rfl (.bool true) rfl rfl (Zd5 (by omega)) ?_
  refine Zd (Ze (Z4 rfl (Zi (Zm (Zc (Iv 140) (Zd (Ze (Zs (Zv (Zq ?_))))))))))
  rw [show Zax k r = ((⟨r.epoch, r.epoch, (k.items.take r.from_.toNat ++ r.items), k.claims⟩ : Kept), 140) from by first | exact Zdi (by omega) (by omega) | exact Zdj (by omega) (by omega) | exact Zdk (by omega) (by omega) | exact Zdl (by omega) (by omega) (by omega) | exact (Zco (by omega) (by omega)).trans (Zei (Zby (by omega))) | exact (Zcp (by omega) (by omega) (by omega)).trans (Zei (Zby (by omega))) | exact (Zcq (by omega) (by omega) (by omega)).trans (Zei (Zby (by omega)))]
  exact Zk (v := Iv 140) rfl rfl rfl (by kernel_rfl) rfl
  refine Zn (vx := Iv (Zd8 (⟨r.epoch, r.epoch, (k.items.take r.from_.toNat ++ r.items), k.claims⟩ : Kept))) (vy := Iv 0) rfl rfl (.bool false) rfl rfl (Zd4 (by omega)) ?_
  refine Zd (Ze (Zz rfl (Z9 (Ze (Zi (Zm (Zc (Iv 0) (Zd (Ze (Zs (Zq ?_)))))))))))
  rw [show Zax k r = ((⟨r.epoch, r.epoch, (k.items.take r.from_.toNat ++ r.items), k.claims⟩ : Kept), 0) from by first | exact (Zco (by omega) (by omega)).trans (Zin (Zcs (by omega))) | exact (Zcp (by omega) (by omega) (by omega)).trans (Zin (Zcs (by omega))) | exact (Zcq (by omega) (by omega) (by omega)).trans (Zin (Zcs (by omega)))]
  exact Zk (v := Iv 0) rfl rfl rfl (by kernel_rfl) rfl
abbrev Y14 (k : Kept) (c : Nat) (d : Nat) : Blk := mxB 4 ([Iv k.epoch, Iv k.log, slv 0 0 k.items.length c, slv 1 0 k.claims.length d])
abbrev Y15 (r : Rec) (p : Nat) (q : Nat) : Blk := mxB 150 ([Iv r.kind, Iv r.epoch, Iv r.from_] ++ (Z1 r.item ++ ([slv 2 0 p q] ++ (Zr r.claim))))
abbrev Y16  : Blk := mxB 4 ([Iv 0, Iv 0, .slice none 0 0, .slice none 0 0])
abbrev Y17 (k : Kept) : Blk := mxB 4 ([Iv k.epoch, Iv k.log, slv 6 0 k.items.length k.items.length, slv 7 0 k.claims.length k.claims.length])
abbrev Y18 (k : Kept) : Blk := mxB 4 ([Iv k.epoch, Iv k.log, dead, slv 7 0 k.claims.length k.claims.length])
abbrev Y19 (k : Kept) (r : Rec) : Blk := mxB 4 ([Iv ((Zax k r).1.epoch), Iv ((Zax k r).1.log), slv 6 0 ((Zax k r).1.items.length) ((Zax k r).1.items.length), slv 7 0 k.claims.length k.claims.length])
theorem Ztf (k : Kept) (c d : Nat) (hc : k.items.length ≤ c) (hd : k.claims.length ≤ d) (hb : k.items.length ≤ 100000) (hb2 : k.claims.length ≤ 100000) (r : Rec) (p q : Nat) (hp : r.items.length = p) (hq : p ≤ q) (hpb : p ≤ 100000) (hk3 : r.kind ≤ 3) : Zat Try.prog G 19 [mxV ([Iv k.epoch, Iv k.log, slv 0 0 k.items.length c, slv 1 0 k.claims.length d]), mxV ([Iv r.kind, Iv r.epoch, Iv r.from_] ++ (Z1 r.item ++ ([slv 2 0 p q] ++ (Zr r.claim))))] [rwR Zj k.items, rwR Zh k.claims, rwR Zj r.items] (.tuple #[mxV ([Iv ((Zdu k r).1.epoch), Iv ((Zdu k r).1.log), slv 3 0 ((Zdu k r).1.items.length) ((Zdu k r).1.items.length), slv 4 0 ((Zdu k r).1.claims.length) ((Zdu k r).1.claims.length)]), Iv (Zdu k r).2]) [rwR Zj k.items, rwR Zh k.claims, rwR Zj r.items, rwB Zj (Zdu k r).1.items, rwB Zh (Zdu k r).1.claims] := by
  refine Zcg (fn := Try.f19) (nt := 42) rfl rfl rfl rfl ?_
  refine Za8 8 (H' := [rwR Zj k.items, rwR Zh k.claims, rwR Zj r.items, hole, hole, hole, hole, hole, hole, hole, hole]) rfl ?_
  refine Zi (Zm (Zbn (v := mxV ([Iv k.epoch, Iv k.log, slv 0 0 k.items.length c, slv 1 0 k.claims.length d])) (b := mxB 4 ([Iv k.epoch, Iv k.log, slv 0 0 k.items.length c, slv 1 0 k.claims.length d])) (nid := 3) (H' := [rwR Zj k.items, rwR Zh k.claims, rwR Zj r.items, Y14 k c d, hole, hole, hole, hole, hole, hole, hole]) (Zbn (v := mxV ([Iv r.kind, Iv r.epoch, Iv r.from_] ++ (Z1 r.item ++ ([slv 2 0 p q] ++ (Zr r.claim))))) (b := mxB 150 ([Iv r.kind, Iv r.epoch, Iv r.from_] ++ (Z1 r.item ++ ([slv 2 0 p q] ++ (Zr r.claim))))) (nid := 4) (H' := [rwR Zj k.items, rwR Zh k.claims, rwR Zj r.items, Y14 k c d, Y15 r p q, hole, hole, hole, hole, hole, hole]) (Zbf (b := mxB 4 ([Iv 0, Iv 0, .slice none 0 0, .slice none 0 0])) (nid := 5) (H' := [rwR Zj k.items, rwR Zh k.claims, rwR Zj r.items, Y14 k c d, Y15 r p q, Y16, hole, hole, hole, hole, hole]) (Zc (Iv 0) (Zd (Ze (Zi (Zav (Zi (Zm (Zl (p := pt 3 0) (v := mxV ([Iv k.epoch, Iv k.log, slv 0 0 k.items.length c, slv 1 0 k.claims.length d])) ?_))))))))))))
  refine Zab (e := [some (0, 0), some (1, 0)]) (nid := 0) (Ze5 (G := G) k k.items.length c k.claims.length d rfl rfl (by omega) (by omega) (by omega) (by omega)) (vals := [mxV ([Iv k.epoch, Iv k.log, slv 0 0 k.items.length c, slv 1 0 k.claims.length d])]) (v := Iv (Zd8 k)) (H' := [rwR Zj k.items, rwR Zh k.claims, rwR Zj r.items, Y14 k c d, Y15 r p q, Y16, hole, hole, hole, hole, hole]) rfl rfl rfl rfl rfl rfl rfl ⟨⟨(Zah (by kernel_rfl) ⟨⟨rfl, rfl⟩, ⟨rfl, rfl⟩, ⟨rfl, rfl, rfl, by first | omega | exact Nat.le_refl _, by first | omega | exact Nat.le_refl _⟩, ⟨rfl, rfl, rfl, by first | omega | exact Nat.le_refl _, by first | omega | exact Nat.le_refl _⟩, trivial⟩), trivial⟩, ⟨(Zaf rfl), (Zaf rfl), trivial⟩, rfl, rfl, rfl⟩ rfl (by kernel_rfl) ?_
  by_cases h1 : (Zd8 k) ≠ 0
  refine Zn (vx := Iv (Zd8 k)) (vy := Iv 0) rfl rfl (.bool true) rfl rfl (Zd5 (by omega)) ?_
  refine Zc (.bool true) (Zd (Ze (Z4 rfl (Zi (Zm ?_)))))
  refine Za0 (vs := []) (v := mxV ([Iv 0, Iv 0, .slice none 0 0, .slice none 0 0])) rfl rfl rfl (by kernel_rfl) ?_
  refine Z5 (p := pt 5 0) (v := mxV ([Iv 0, Iv 0, .slice none 0 0, .slice none 0 0])) (b := 5) (blk := mxB 4 ([Iv 0, Iv 0, .slice none 0 0, .slice none 0 0])) (H' := [rwR Zj k.items, rwR Zh k.claims, rwR Zj r.items, Y14 k c d, Y15 r p q, Y16, hole, hole, hole, hole, hole]) (Zc (Iv 1) (Zd (Ze ?_)))
  refine Zbh (Zbz.nilCell (k := 5) (j := 2) (b := 6) true 110 rfl (by decide) rfl (by show 0 < 4; decide) rfl rfl) ?_
  refine Zbh (Zbz.nilCell (k := 5) (j := 3) (b := 7) true 36 rfl (by decide) rfl (by show 0 < 4; decide) rfl rfl) ?_
  refine Zs (Zy (Zv (Zq ?_)))
  rw [show Zdu k r = (⟨0, 0, [], []⟩, 1) from Zzp (Zby (by omega))]
  exact Zar [0, 1, 2, 6, 7] (v := .tuple #[mxV ([Iv 0, Iv 0, slv 6 0 0 0, slv 7 0 0 0]), Iv 1]) rfl (by kernel_rfl) rfl rfl (by decide) (by simp [Zbr, rwB, rwR, Zj, Zh]) ⟨(Zah (by kernel_rfl) ⟨⟨rfl, rfl⟩, ⟨rfl, rfl⟩, ⟨rfl, rfl, rfl, by first | omega | exact Nat.le_refl _ | exact Nat.zero_le _ | (dsimp only; omega), by first | omega | exact Nat.le_refl _ | exact Nat.zero_le _ | (dsimp only; omega)⟩, ⟨rfl, rfl, rfl, by first | omega | exact Nat.le_refl _ | exact Nat.zero_le _ | (dsimp only; omega), by first | omega | exact Nat.le_refl _ | exact Nat.zero_le _ | (dsimp only; omega)⟩, trivial⟩), rfl, trivial⟩
  refine Zn (vx := Iv (Zd8 k)) (vy := Iv 0) rfl rfl (.bool false) rfl rfl (Zd4 (by omega)) ?_
  refine Zc (.bool false) (Zd (Ze (Zz rfl (Zi (Zm (Zl (p := pt 4 0) (v := mxV ([Iv r.kind, Iv r.epoch, Iv r.from_] ++ (Z1 r.item ++ ([slv 2 0 p q] ++ (Zr r.claim))))) ?_))))))
  refine Zab (e := [some (2, 0)]) (nid := 0) (Zt5 (G := G) r p q hp (by omega) (by omega)) (vals := [mxV ([Iv r.kind, Iv r.epoch, Iv r.from_] ++ (Z1 r.item ++ ([slv 2 0 p q] ++ (Zr r.claim))))]) (v := .bool (decide (Zaw r))) (H' := [rwR Zj k.items, rwR Zh k.claims, rwR Zj r.items, Y14 k c d, Y15 r p q, Y16, hole, hole, hole, hole, hole]) rfl rfl rfl rfl rfl rfl rfl ⟨⟨(Zah (by kernel_rfl) (Zac ⟨⟨rfl, rfl⟩, ⟨rfl, rfl⟩, ⟨rfl, rfl⟩, trivial⟩ (Zac (Zap (by kernel_rfl)) (Zac ⟨⟨rfl, rfl, rfl, by first | omega | exact Nat.le_refl _, by first | omega | exact Nat.le_refl _⟩, trivial⟩ (Zap (by kernel_rfl)))))), trivial⟩, ⟨(Zaf rfl), trivial⟩, rfl, rfl, rfl⟩ rfl (by kernel_rfl) ?_
  rcases Bool.eq_false_or_eq_true (decide (Zaw r)) with h2 | h2
  refine Zcx (vx := .bool (decide (Zaw r))) rfl rfl (.bool false) rfl (Eq.trans Za3 (congrArg (fun b => some (Value.bool !b)) h2)) ?_
  refine Zc (.bool false) (Zd (Ze (Zz rfl (Z9 (Z7 (Ze (Zi ?_)))))))
  refine Zel (by kernel_rfl) ?_
  refine Zf (b := 3) (o := 0) (n := 2) (o' := 2) (Zl (p := pt 3 2) (v := slv 0 0 k.items.length c) ?_)
  refine Zab (e := [some (0, 0)]) (nid := 6) (Zny (G := G) k.items k.items.length c rfl (by omega) (by omega)) (vals := [slv 0 0 k.items.length c]) (v := slv 6 0 k.items.length k.items.length) (H' := [rwR Zj k.items, rwR Zh k.claims, rwR Zj r.items, Y14 k c d, Y15 r p q, Y16, rwB Zj k.items, hole, hole, hole, hole]) rfl rfl rfl rfl rfl rfl rfl ⟨⟨⟨rfl, rfl, rfl, by first | omega | exact Nat.le_refl _, by first | omega | exact Nat.le_refl _⟩, trivial⟩, ⟨(Zaf rfl), trivial⟩, rfl, rfl, rfl⟩ (by kernel_rfl) (by kernel_rfl) ?_
  refine Zf (b := 3) (o := 0) (n := 3) (o' := 3) (Zl (p := pt 3 3) (v := slv 1 0 k.claims.length d) ?_)
  refine Zab (e := [some (1, 0)]) (nid := 7) (Zi3 (G := G) k.claims k.claims.length d rfl (by omega) (by omega)) (vals := [slv 1 0 k.claims.length d]) (v := slv 7 0 k.claims.length k.claims.length) (H' := [rwR Zj k.items, rwR Zh k.claims, rwR Zj r.items, Y14 k c d, Y15 r p q, Y16, rwB Zj k.items, rwB Zh k.claims, hole, hole, hole]) rfl rfl rfl rfl rfl rfl rfl ⟨⟨⟨rfl, rfl, rfl, by first | omega | exact Nat.le_refl _, by first | omega | exact Nat.le_refl _⟩, trivial⟩, ⟨(Zaf rfl), trivial⟩, rfl, rfl, rfl⟩ (by kernel_rfl) (by kernel_rfl) ?_
  refine Zf (b := 3) (o := 0) (n := 2) (o' := 2) (Z5 (p := pt 3 2) (v := slv 6 0 k.items.length k.items.length) (b := 3) (blk := mxB 4 ([Iv k.epoch, Iv k.log, slv 6 0 k.items.length k.items.length, slv 1 0 k.claims.length d])) (H' := [rwR Zj k.items, rwR Zh k.claims, rwR Zj r.items, mxB 4 ([Iv k.epoch, Iv k.log, slv 6 0 k.items.length k.items.length, slv 1 0 k.claims.length d]), Y15 r p q, Y16, rwB Zj k.items, rwB Zh k.claims, hole, hole, hole]) (Zf (b := 3) (o := 0) (n := 3) (o' := 3) (Z5 (p := pt 3 3) (v := slv 7 0 k.claims.length k.claims.length) (b := 3) (blk := mxB 4 ([Iv k.epoch, Iv k.log, slv 6 0 k.items.length k.items.length, slv 7 0 k.claims.length k.claims.length])) (H' := [rwR Zj k.items, rwR Zh k.claims, rwR Zj r.items, Y17 k, Y15 r p q, Y16, rwB Zj k.items, rwB Zh k.claims, hole, hole, hole]) ?_)))
  refine Zb6 (Zay [[], [0], [0, 1], [], [3], [0, 1, 2, 3, 4], [0, 1, 2, 3, 4], [0, 1, 2, 3, 4, 5, 6], [0, 1, 2, 3, 4, 5, 6, 7], [0, 1, 2, 3, 4, 5, 6, 7, 8]] (by kernel_rfl) (by kernel_rfl)) ?_
  refine Ze (Zi (Zm (Zl (p := pt 3 0) (v := mxV ([Iv k.epoch, Iv k.log, slv 6 0 k.items.length k.items.length, slv 7 0 k.claims.length k.claims.length])) ?_)))
  refine Za0 (vs := [(0, mxV ([Iv k.epoch, Iv k.log, slv 6 0 k.items.length k.items.length, slv 7 0 k.claims.length k.claims.length]))]) (v := mxV ([Iv k.epoch, Iv k.log, slv 6 0 k.items.length k.items.length, slv 7 0 k.claims.length k.claims.length])) rfl rfl rfl (by kernel_rfl) ?_
  refine Zbn (v := mxV ([Iv k.epoch, Iv k.log, slv 6 0 k.items.length k.items.length, slv 7 0 k.claims.length k.claims.length])) (b := mxB 4 ([Iv k.epoch, Iv k.log, slv 6 0 k.items.length k.items.length, slv 7 0 k.claims.length k.claims.length])) (nid := 8) (H' := [rwR Zj k.items, rwR Zh k.claims, rwR Zj r.items, Y17 k, Y15 r p q, Y16, rwB Zj k.items, rwB Zh k.claims, Y17 k, hole, hole]) (Zc (pt 8 0) (Zd (Ze (Zi (Zm (Zc (.func (.func 39) #[] #[]) (Zd (Ze (Zi (Zi (Zm (Zb (.func (.func 39) #[] #[]) (Zb (pt 8 0) (Zl (p := pt 4 0) (v := mxV ([Iv r.kind, Iv r.epoch, Iv r.from_] ++ (Z1 r.item ++ ([slv 2 0 p q] ++ (Zr r.claim))))) ?_))))))))))))))
  have hmy4 := Zla (of_decide_eq_true (by assumption : decide (Zaw r) = true))
  refine Zsn (e := [some (8, 0), some (6, 0), some (7, 0), some (2, 0)]) (nid := 0) (Zx8 (G := G) k r p q hp (by omega) (by omega) (by omega) (by omega) hmy4.1.1 (by omega) hmy4.2) (vals := [pt 8 0, mxV ([Iv r.kind, Iv r.epoch, Iv r.from_] ++ (Z1 r.item ++ ([slv 2 0 p q] ++ (Zr r.claim))))]) (v := Iv ((Zax k r).2)) (H' := [rwR Zj k.items, rwR Zh k.claims, rwR Zj r.items, Y18 k, Y15 r p q, Y16, rwB Zj ((Zax k r).1.items), rwB Zh k.claims, Y19 k r, hole, hole]) rfl rfl rfl rfl rfl rfl ⟨⟨⟨rfl, rfl⟩, (Zah (by kernel_rfl) (Zac ⟨⟨rfl, rfl⟩, ⟨rfl, rfl⟩, ⟨rfl, rfl⟩, trivial⟩ (Zac (Zap (by kernel_rfl)) (Zac ⟨⟨rfl, rfl, rfl, by first | omega | exact Nat.le_refl _, by first | omega | exact Nat.le_refl _⟩, trivial⟩ (Zap (by kernel_rfl)))))), trivial⟩, ⟨(Zil (B := mxB 4 ([Iv k.epoch, Iv k.log, slv 6 0 k.items.length k.items.length, slv 7 0 k.claims.length k.claims.length])) (by kernel_rfl) rfl rfl (by kernel_rfl)), (Zil rfl rfl rfl rfl), (Zbd rfl), (Zaf rfl), trivial⟩, rfl, rfl, rfl, Nat.le_refl _⟩ rfl rfl (by kernel_rfl) ?_
  refine Zc (Iv ((Zax k r).2)) (Zd (Ze (Zi (Zm (Zb (Iv ((Zax k r).2)) ?_)))))
  by_cases h3 : ((Zax k r).2) ≠ 0
  refine Zn (vx := Iv ((Zax k r).2)) (vy := Iv 0) rfl rfl (.bool true) rfl rfl (Zd5 (by omega)) ?_
  refine Zd (Ze (Z4 rfl (Zi (Zm ?_))))
  refine Za0 (vs := []) (v := mxV ([Iv 0, Iv 0, .slice none 0 0, .slice none 0 0])) rfl rfl rfl (by kernel_rfl) ?_
  refine Zb (Iv ((Zax k r).2)) (Z5 (p := pt 5 0) (v := mxV ([Iv 0, Iv 0, .slice none 0 0, .slice none 0 0])) (b := 5) (blk := mxB 4 ([Iv 0, Iv 0, .slice none 0 0, .slice none 0 0])) (H' := [rwR Zj k.items, rwR Zh k.claims, rwR Zj r.items, Y18 k, Y15 r p q, Y16, rwB Zj ((Zax k r).1.items), rwB Zh k.claims, Y19 k r, hole, hole]) (Zc (Iv ((Zax k r).2)) (Zd (Ze ?_))))
  refine Zbh (Zbz.nilCell (k := 5) (j := 2) (b := 9) true 110 rfl (by decide) rfl (by show 0 < 4; decide) rfl rfl) ?_
  refine Zbh (Zbz.nilCell (k := 5) (j := 3) (b := 10) true 36 rfl (by decide) rfl (by show 0 < 4; decide) rfl rfl) ?_
  refine Zs (Zv (Zq ?_))
  rw [show Zdu k r = (⟨0, 0, [], []⟩, (Zax k r).2) from Zzr (Zcs (by omega)) (of_decide_eq_true (by assumption)) (by omega)]
  exact Zar [0, 1, 2, 9, 10] (v := .tuple #[mxV ([Iv 0, Iv 0, slv 9 0 0 0, slv 10 0 0 0]), Iv ((Zax k r).2)]) rfl (by kernel_rfl) rfl rfl (by decide) (by simp [Zbr, rwB, rwR, Zj, Zh]) ⟨(Zah (by kernel_rfl) ⟨⟨rfl, rfl⟩, ⟨rfl, rfl⟩, ⟨rfl, rfl, rfl, by first | omega | exact Nat.le_refl _ | exact Nat.zero_le _ | (dsimp only; omega), by first | omega | exact Nat.le_refl _ | exact Nat.zero_le _ | (dsimp only; omega)⟩, ⟨rfl, rfl, rfl, by first | omega | exact Nat.le_refl _ | exact Nat.zero_le _ | (dsimp only; omega), by first | omega | exact Nat.le_refl _ | exact Nat.zero_le _ | (dsimp only; omega)⟩, trivial⟩), rfl, trivial⟩
  refine Zn (vx := Iv ((Zax k r).2)) (vy := Iv 0) rfl rfl (.bool false) rfl rfl (Zd4 (by omega)) ?_
  refine Zd (Ze (Zz rfl (Z9 (Ze (Zi (Zm (Zb (pt 8 0) (Zbl (p := pt 8 0) (v := pt 8 0) (Zf (b := 8) (o := 0) (n := 0) (o' := 0) (Zl (p := pt 8 0) (v := mxV ([Iv ((Zax k r).1.epoch), Iv ((Zax k r).1.log), slv 6 0 ((Zax k r).1.items.length) ((Zax k r).1.items.length), slv 7 0 k.claims.length k.claims.length])) (Z5 (p := pt 5 0) (v := mxV ([Iv ((Zax k r).1.epoch), Iv ((Zax k r).1.log), slv 6 0 ((Zax k r).1.items.length) ((Zax k r).1.items.length), slv 7 0 k.claims.length k.claims.length])) (b := 5) (blk := mxB 4 ([Iv ((Zax k r).1.epoch), Iv ((Zax k r).1.log), slv 6 0 ((Zax k r).1.items.length) ((Zax k r).1.items.length), slv 7 0 k.claims.length k.claims.length])) (H' := [rwR Zj k.items, rwR Zh k.claims, rwR Zj r.items, Y18 k, Y15 r p q, Y19 k r, rwB Zj ((Zax k r).1.items), rwB Zh k.claims, Y19 k r, hole, hole]) (Zc (Iv 0) (Zd (Ze (Zs (Zq ?_))))))))))))))))
  rw [show Zdu k r = (⟨(Zax k r).1.epoch, (Zax k r).1.log, (Zax k r).1.items, k.claims⟩, 0) from Zzs (Zcs (by omega)) (of_decide_eq_true (by assumption)) (by omega)]
  exact Zar [0, 1, 2, 6, 7] (v := .tuple #[mxV ([Iv ((Zax k r).1.epoch), Iv ((Zax k r).1.log), slv 6 0 ((Zax k r).1.items.length) ((Zax k r).1.items.length), slv 7 0 k.claims.length k.claims.length]), Iv 0]) rfl (by kernel_rfl) rfl rfl (by decide) (by simp [Zbr, rwB, rwR, Zj, Zh]) ⟨(Zah (by kernel_rfl) ⟨⟨rfl, rfl⟩, ⟨rfl, rfl⟩, ⟨rfl, rfl, rfl, by first | omega | exact Nat.le_refl _ | exact Nat.zero_le _ | (dsimp only; omega), by first | omega | exact Nat.le_refl _ | exact Nat.zero_le _ | (dsimp only; omega)⟩, ⟨rfl, rfl, rfl, by first | omega | exact Nat.le_refl _ | exact Nat.zero_le _ | (dsimp only; omega), by first | omega | exact Nat.le_refl _ | exact Nat.zero_le _ | (dsimp only; omega)⟩, trivial⟩), rfl, trivial⟩
  refine Zcx (vx := .bool (decide (Zaw r))) rfl rfl (.bool true) rfl (Eq.trans Za3 (congrArg (fun b => some (Value.bool !b)) h2)) ?_
  refine Zc (.bool true) (Zd (Ze (Z4 rfl (Zi (Zm ?_)))))
  refine Za0 (vs := []) (v := mxV ([Iv 0, Iv 0, .slice none 0 0, .slice none 0 0])) rfl rfl rfl (by kernel_rfl) ?_
  refine Z5 (p := pt 5 0) (v := mxV ([Iv 0, Iv 0, .slice none 0 0, .slice none 0 0])) (b := 5) (blk := mxB 4 ([Iv 0, Iv 0, .slice none 0 0, .slice none 0 0])) (H' := [rwR Zj k.items, rwR Zh k.claims, rwR Zj r.items, Y14 k c d, Y15 r p q, Y16, hole, hole, hole, hole, hole]) (Zc (Iv 140) (Zd (Ze ?_)))
  refine Zbh (Zbz.nilCell (k := 5) (j := 2) (b := 6) true 110 rfl (by decide) rfl (by show 0 < 4; decide) rfl rfl) ?_
  refine Zbh (Zbz.nilCell (k := 5) (j := 3) (b := 7) true 36 rfl (by decide) rfl (by show 0 < 4; decide) rfl rfl) ?_
  refine Zs (Zy (Zv (Zq ?_)))
  rw [show Zdu k r = (⟨0, 0, [], []⟩, 140) from Zzq (Zcs (by omega)) (of_decide_eq_false (by assumption))]
  exact Zar [0, 1, 2, 6, 7] (v := .tuple #[mxV ([Iv 0, Iv 0, slv 6 0 0 0, slv 7 0 0 0]), Iv 140]) rfl (by kernel_rfl) rfl rfl (by decide) (by simp [Zbr, rwB, rwR, Zj, Zh]) ⟨(Zah (by kernel_rfl) ⟨⟨rfl, rfl⟩, ⟨rfl, rfl⟩, ⟨rfl, rfl, rfl, by first | omega | exact Nat.le_refl _ | exact Nat.zero_le _ | (dsimp only; omega), by first | omega | exact Nat.le_refl _ | exact Nat.zero_le _ | (dsimp only; omega)⟩, ⟨rfl, rfl, rfl, by first | omega | exact Nat.le_refl _ | exact Nat.zero_le _ | (dsimp only; omega), by first | omega | exact Nat.le_refl _ | exact Nat.zero_le _ | (dsimp only; omega)⟩, trivial⟩), rfl, trivial⟩
end Go.Flat
