/- Walks. -/
import Derived.Test.YtoafdomlefoenaaN3
set_option linter.unusedVariables false
set_option linter.unusedSimpArgs false
set_option maxRecDepth 20000
namespace Go.Flat
open Go.Proofs
variable {G : Glob}
def Zh5 (k : Kept) : Kept × Int := (k, if Zax k then 0 else 140)
theorem Zhj {k : Kept} (h : Zax k) : Zh5 k = (k, 0) := by unfold Zh5; rw [if_pos h]
theorem Zdc {k : Kept} (h : ¬ Zax k) : Zh5 k = (k, 140) := by unfold Zh5; rw [if_neg h]
def Zad (k : Kept) (r : Rec) : Kept × Int :=
  if r.kind = 1 then (if r.epoch < k.epoch then (k, 140) else Zh5 ⟨r.epoch, k.log, k.items, k.claims⟩) else
  if r.kind = 2 then (if r.item.epoch = k.log ∧ Zek k.items k.items.length r.item = 0 then Zh5 ⟨k.epoch, k.log, k.items ++ [r.item], k.claims⟩ else (k, 140)) else
  if r.epoch < k.epoch then (k, 140) else if (k.items.length : Int) < r.from_ then (k, 141) else Zh5 ⟨r.epoch, r.epoch, k.items.take r.from_.toNat ++ r.items, k.claims⟩
section
variable {k : Kept} {r : Rec}
theorem Zfe (h : r.kind = 1) (h1 : r.epoch < k.epoch) : Zad k r = (k, 140) := by unfold Zad; rw [if_pos h, if_pos h1]
theorem Zc8 (h : r.kind = 1) (h1 : ¬ r.epoch < k.epoch) : Zad k r = Zh5 ⟨r.epoch, k.log, k.items, k.claims⟩ := by unfold Zad; rw [if_pos h, if_neg h1]
theorem Zfg (h : r.kind = 2) (h1 : ¬ (r.item.epoch = k.log ∧ Zek k.items k.items.length r.item = 0)) : Zad k r = (k, 140) := by unfold Zad; rw [if_neg (by omega), if_pos h, if_neg h1]
theorem Zep (h : r.kind = 2) (h1 : r.item.epoch = k.log) (h2 : Zek k.items k.items.length r.item = 0) : Zad k r = Zh5 ⟨k.epoch, k.log, k.items ++ [r.item], k.claims⟩ := by unfold Zad; rw [if_neg (by omega), if_pos h, if_pos ⟨h1, h2⟩]
theorem Zf1 (h : r.kind = 3) (h1 : r.epoch < k.epoch) : Zad k r = (k, 140) := by unfold Zad; rw [if_neg (by omega), if_neg (by omega), if_pos h1]
theorem Zfy (h : r.kind = 3) (h1 : ¬ r.epoch < k.epoch) (h2 : (k.items.length : Int) < r.from_) : Zad k r = (k, 141) := by unfold Zad; rw [if_neg (by omega), if_neg (by omega), if_neg h1, if_pos h2]
theorem Zef (h : r.kind = 3) (h1 : ¬ r.epoch < k.epoch) (h2 : ¬ (k.items.length : Int) < r.from_) : Zad k r = Zh5 ⟨r.epoch, r.epoch, k.items.take r.from_.toNat ++ r.items, k.claims⟩ := by unfold Zad; rw [if_neg (by omega), if_neg (by omega), if_neg h1, if_neg h2]
end
def Z0 (k : Kept) (r : Rec) : Kept × Int :=
  if Zax k then (if Zce r then (if (Zad k r).2 = 0 then ((Zad k r).1, 0) else (⟨0, 0, [], []⟩, (Zad k r).2)) else (⟨0, 0, [], []⟩, 140)) else (⟨0, 0, [], []⟩, 1)
section
variable {k : Kept} {r : Rec}
theorem Zwn (h : ¬ Zax k) : Z0 k r = (⟨0, 0, [], []⟩, 1) := if_neg h
theorem Zqe (h : Zax k) (h1 : ¬ Zce r) : Z0 k r = (⟨0, 0, [], []⟩, 140) := by unfold Z0; rw [if_pos h, if_neg h1]
theorem Ztk (h : Zax k) (h1 : Zce r) (h2 : ¬ (Zad k r).2 = 0) : Z0 k r = (⟨0, 0, [], []⟩, (Zad k r).2) := by unfold Z0; rw [if_pos h, if_pos h1, if_neg h2]
theorem Zo1 : (Zad k r).1.claims = k.claims := by
 unfold Zad Zh5
 split
 ·split <;> rfl
 ·split
  ·split <;> rfl
  ·split
   ·rfl
   ·split <;> rfl
theorem Zna (h : Zax k) (h1 : Zce r) (h2 : (Zad k r).2 = 0) : Z0 k r = ((Zad k r).1, 0) := by unfold Z0; rw [if_pos h, if_pos h1, if_pos h2]
theorem Zv9 (h : Zax k) (h1 : Zce r) (h2 : (Zad k r).2 = 0) : Z0 k r = (⟨(Zad k r).1.epoch, (Zad k r).1.log, (Zad k r).1.items, k.claims⟩, 0) := by rw [Zna h h1 h2, ← Zo1 (r := r)]
end
theorem Zuy (k : Kept) (r : Rec) (p q : Nat) (hp : r.items.length = p) (hq : p ≤ q) (hpb : p ≤ 100000) (hb : k.items.length ≤ 100000) (hb2 : k.claims.length ≤ 1048576) (hk1 : 1 ≤ r.kind) (hk3 : r.kind ≤ 3) (hf : r.kind = 3 → 0 ≤ r.from_ ∧ r.from_ ≤ 2000) : Zak Try.prog G 39 [pt 0 0, mxV ([Iv r.kind, Iv r.epoch, Iv r.from_] ++ (Zr r.item ++ ([slv 3 0 p q] ++ (Zs r.claim))))] [mxB 4 ([Iv k.epoch, Iv k.log, slv 1 0 k.items.length k.items.length, slv 2 0 k.claims.length k.claims.length]), rwB Zh k.items, rwR Zj k.claims, rwR Zh r.items] (Iv (Zad k r).2) [mxB 4 ([Iv ((Zad k r).1.epoch), Iv ((Zad k r).1.log), slv 1 0 ((Zad k r).1.items.length) ((Zad k r).1.items.length), slv 2 0 k.claims.length k.claims.length]), rwB Zh (Zad k r).1.items, rwR Zj k.claims, rwR Zh r.items] := by
  refine Zb5 (fn := Try.f39) (nt := 134) rfl rfl rfl rfl ?_
  refine Za5 2 (H' := [mxB 4 ([Iv k.epoch, Iv k.log, slv 1 0 k.items.length k.items.length, slv 2 0 k.claims.length k.claims.length]), rwB Zh k.items, rwR Zj k.claims, rwR Zh r.items, hole, hole]) rfl ?_
  refine Zk (Zm ?_)
  refine Zch (v := mxV ([Iv r.kind, Iv r.epoch, Iv r.from_] ++ (Zr r.item ++ ([slv 3 0 p q] ++ (Zs r.claim))))) (b := mxB 150 ([Iv r.kind, Iv r.epoch, Iv r.from_] ++ (Zr r.item ++ ([slv 3 0 p q] ++ (Zs r.claim))))) (nid := 4) (H' := [mxB 4 ([Iv k.epoch, Iv k.log, slv 1 0 k.items.length k.items.length, slv 2 0 k.claims.length k.claims.length]), rwB Zh k.items, rwR Zj k.claims, rwR Zh r.items, mxB 150 ([Iv r.kind, Iv r.epoch, Iv r.from_] ++ (Zr r.item ++ ([slv 3 0 p q] ++ (Zs r.claim)))), hole]) rfl rfl rfl (by kernel_rfl) (by kernel_rfl) ?_
  refine Zd rfl rfl (Iv 0) rfl (Zb (Zc (Zk (Zk (Zm ?_)))))
  refine Ze (b := 4) (o := 0) (n := 0) (o' := 0) rfl rfl rfl rfl rfl ?_
  refine Zl (p := pt 4 0) (v := Iv r.kind) rfl rfl rfl (by kernel_rfl) ?_
  refine Zb (Zc (Zbm (Zk (Zm ?_))))
  by_cases h1 : r.kind = 1
  refine Zn (vx := Iv r.kind) (vy := Iv 1) rfl rfl (.bool true) rfl rfl (Zao (by omega)) ?_
  refine Zd rfl rfl (.bool true) rfl (Zb (Zc (Z4 rfl (Zk (Zk ?_)))))
  refine Zd6 (by kernel_rfl) ?_
  refine Ze (b := 4) (o := 0) (n := 1) (o' := 1) rfl rfl rfl rfl rfl ?_
  refine Zl (p := pt 4 1) (v := Iv r.epoch) rfl rfl rfl (by kernel_rfl) ?_
  refine Zf rfl rfl (pt 0 0) rfl ?_
  refine Zbs (p := pt 0 0) (v := pt 0 0) rfl rfl rfl rfl ?_
  refine Ze (b := 0) (o := 0) (n := 0) (o' := 0) rfl rfl rfl rfl rfl ?_
  refine Ze (b := 0) (o := 0) (n := 0) (o' := 0) rfl rfl rfl rfl rfl ?_
  refine Zl (p := pt 0 0) (v := Iv k.epoch) rfl rfl rfl (by kernel_rfl) ?_
  by_cases h2 : r.epoch < k.epoch
  refine Zn (vx := Iv r.epoch) (vy := Iv k.epoch) rfl rfl (.bool true) rfl rfl (Zea (by omega)) ?_
  refine Zbe (Zan [[], [0], [], [2], [2, 3], [2, 3, 4], [2, 3, 4, 5], [0, 1, 2, 3, 4, 5, 6]] (by kernel_rfl) (by kernel_rfl)) ?_
  refine Zc (Z4 rfl (Zk (Zm (Zd rfl rfl (Iv 140) rfl (Zb (Zc (Zq (Zv (Zz (Zv (Zo ?_)))))))))))
  rw [show Zad k r = ((⟨k.epoch, k.log, k.items, k.claims⟩ : Kept), 140) from by first | exact Zfe (by omega) (by omega) | exact Zfg (by omega) (by omega) | exact Zf1 (by omega) (by omega) | exact Zfy (by omega) (by omega) (by omega) | exact (Zc8 (by omega) (by omega)).trans (Zdc (Za3 (by omega))) | exact (Zep (by omega) (by omega) (by omega)).trans (Zdc (Za3 (by omega))) | exact (Zef (by omega) (by omega) (by omega)).trans (Zdc (Za3 (by omega)))]
  exact Zi (v := Iv 140) rfl rfl rfl (by kernel_rfl) rfl
  refine Zn (vx := Iv r.epoch) (vy := Iv k.epoch) rfl rfl (.bool false) rfl rfl (Zeb (by omega)) ?_
  refine Zbe (Zan [[], [0], [], [2], [2, 3], [2, 3, 4], [2, 3, 4, 5], [0, 1, 2, 3, 4, 5, 6]] (by kernel_rfl) (by kernel_rfl)) ?_
  refine Zc (Zx rfl (Z8 (Zc (Zm (Zf rfl rfl (pt 0 0) rfl ?_)))))
  refine Ze (b := 4) (o := 0) (n := 1) (o' := 1) rfl rfl rfl rfl rfl ?_
  refine Zl (p := pt 4 1) (v := Iv r.epoch) rfl rfl rfl (by kernel_rfl) ?_
  refine Zbs (p := pt 0 0) (v := pt 0 0) rfl rfl rfl rfl ?_
  refine Ze (b := 0) (o := 0) (n := 0) (o' := 0) rfl rfl rfl rfl rfl ?_
  refine Ze (b := 0) (o := 0) (n := 0) (o' := 0) rfl rfl rfl rfl rfl ?_
  refine Zaa (p := pt 0 0) (v := Iv r.epoch) (b := 0) (blk := mxB 4 ([Iv r.epoch, Iv k.log, slv 1 0 k.items.length k.items.length, slv 2 0 k.claims.length k.claims.length])) (H' := [mxB 4 ([Iv r.epoch, Iv k.log, slv 1 0 k.items.length k.items.length, slv 2 0 k.claims.length k.claims.length]), rwB Zh k.items, rwR Zj k.claims, rwR Zh r.items, mxB 150 ([Iv r.kind, Iv r.epoch, Iv r.from_] ++ (Zr r.item ++ ([slv 3 0 p q] ++ (Zs r.claim)))), hole]) rfl rfl rfl (by kernel_rfl) (by kernel_rfl) ?_
  refine Zb (Z2 (Zc (Zk (Zk (Zm (Zf rfl rfl (pt 0 0) rfl ?_))))))
  refine Zbs (p := pt 0 0) (v := pt 0 0) rfl rfl rfl rfl ?_
  refine Ze (b := 0) (o := 0) (n := 0) (o' := 0) rfl rfl rfl rfl rfl ?_
  refine Zl (p := pt 0 0) (v := mxV ([Iv r.epoch, Iv k.log, slv 1 0 k.items.length k.items.length, slv 2 0 k.claims.length k.claims.length])) rfl rfl rfl (by kernel_rfl) ?_
  refine Z9 (e := [some (1, 0), some (2, 0)]) (nid := 0) (Zdr (G := G) (⟨r.epoch, k.log, k.items, k.claims⟩ : Kept) k.items.length k.items.length k.claims.length k.claims.length rfl rfl (by omega) (by omega) (by omega) (by omega)) (vals := [mxV ([Iv r.epoch, Iv k.log, slv 1 0 k.items.length k.items.length, slv 2 0 k.claims.length k.claims.length])]) (v := Iv (Zcb (⟨r.epoch, k.log, k.items, k.claims⟩ : Kept))) (H' := [mxB 4 ([Iv r.epoch, Iv k.log, slv 1 0 k.items.length k.items.length, slv 2 0 k.claims.length k.claims.length]), rwB Zh k.items, rwR Zj k.claims, rwR Zh r.items, mxB 150 ([Iv r.kind, Iv r.epoch, Iv r.from_] ++ (Zr r.item ++ ([slv 3 0 p q] ++ (Zs r.claim)))), hole]) rfl rfl rfl rfl rfl rfl rfl ⟨⟨(Zac (by kernel_rfl) ⟨⟨rfl, rfl⟩, ⟨rfl, rfl⟩, ⟨rfl, rfl, rfl, by first | omega | exact Nat.le_refl _, by first | omega | exact Nat.le_refl _⟩, ⟨rfl, rfl, rfl, by first | omega | exact Nat.le_refl _, by first | omega | exact Nat.le_refl _⟩, trivial⟩), trivial⟩, ⟨(Za1 rfl), (Zab rfl), trivial⟩, rfl, rfl, rfl⟩ rfl (by kernel_rfl) ?_
  by_cases h3 : (Zcb (⟨r.epoch, k.log, k.items, k.claims⟩ : Kept)) ≠ 0
  refine Zn (vx := Iv (Zcb (⟨r.epoch, k.log, k.items, k.claims⟩ : Kept))) (vy := Iv 0) rfl rfl (.bool true) rfl rfl (Zed (by omega)) ?_
  refine Zb (Zc (Z4 rfl (Zk (Zm (Zd rfl rfl (Iv 140) rfl (Zb (Zc (Zq (Zv (Zo ?_))))))))))
  rw [show Zad k r = ((⟨r.epoch, k.log, k.items, k.claims⟩ : Kept), 140) from by first | exact Zfe (by omega) (by omega) | exact Zfg (by omega) (by omega) | exact Zf1 (by omega) (by omega) | exact Zfy (by omega) (by omega) (by omega) | exact (Zc8 (by omega) (by omega)).trans (Zdc (Za3 (by omega))) | exact (Zep (by omega) (by omega) (by omega)).trans (Zdc (Za3 (by omega))) | exact (Zef (by omega) (by omega) (by omega)).trans (Zdc (Za3 (by omega)))]
  exact Zi (v := Iv 140) rfl rfl rfl (by kernel_rfl) rfl
  refine Zn (vx := Iv (Zcb (⟨r.epoch, k.log, k.items, k.claims⟩ : Kept))) (vy := Iv 0) rfl rfl (.bool false) rfl rfl (Zd4 (by omega)) ?_
  refine Zb (Zc (Zx rfl (Z8 (Zc (Zk (Zm (Zd rfl rfl (Iv 0) rfl (Zb (Zc (Zq (Zo ?_)))))))))))
  rw [show Zad k r = ((⟨r.epoch, k.log, k.items, k.claims⟩ : Kept), 0) from by first | exact (Zc8 (by omega) (by omega)).trans (Zhj (Zbw (by omega))) | exact (Zep (by omega) (by omega) (by omega)).trans (Zhj (Zbw (by omega))) | exact (Zef (by omega) (by omega) (by omega)).trans (Zhj (Zbw (by omega)))]
  exact Zi (v := Iv 0) rfl rfl rfl (by kernel_rfl) rfl
  refine Zn (vx := Iv r.kind) (vy := Iv 1) rfl rfl (.bool false) rfl rfl (Zbf (by omega)) ?_
  refine Zd rfl rfl (.bool false) rfl (Zb (Zc (Zx rfl (Zk (Zm ?_)))))
  by_cases h4 : r.kind = 2
  refine Zn (vx := Iv r.kind) (vy := Iv 2) rfl rfl (.bool true) rfl rfl (Zao (by omega)) ?_
  refine Zd rfl rfl (.bool true) rfl (Zb (Zc (Z4 rfl (Zk (Zk ?_)))))
  refine Zgu (by kernel_rfl) ?_
  refine Ze (b := 4) (o := 0) (n := 3) (o' := 3) rfl rfl rfl rfl rfl ?_
  refine Ze (b := 4) (o := 3) (n := 0) (o' := 3) rfl rfl rfl rfl rfl ?_
  refine Zl (p := pt 4 3) (v := Iv r.item.epoch) rfl rfl rfl (by kernel_rfl) ?_
  refine Zf rfl rfl (pt 0 0) rfl ?_
  refine Zbs (p := pt 0 0) (v := pt 0 0) rfl rfl rfl rfl ?_
  refine Ze (b := 0) (o := 0) (n := 0) (o' := 0) rfl rfl rfl rfl rfl ?_
  refine Ze (b := 0) (o := 0) (n := 1) (o' := 1) rfl rfl rfl rfl rfl ?_
  refine Zl (p := pt 0 1) (v := Iv k.log) rfl rfl rfl (by kernel_rfl) ?_
  by_cases h5 : r.item.epoch ≠ k.log
  refine Zn (vx := Iv r.item.epoch) (vy := Iv k.log) rfl rfl (.bool true) rfl rfl (Zed (by omega)) ?_
  refine Zf rfl rfl (.bool true) rfl (Za rfl rfl (Za rfl rfl (Za rfl rfl (Za rfl rfl (Za rfl rfl (Za rfl rfl (Za rfl rfl (Za rfl rfl (Za rfl rfl (Zg rfl rfl (.bool true) rfl ?_))))))))))
  refine Zct (Zbh [[], [0], [0, 1], [], [3], [3, 4], [3, 4, 5], [3, 4, 5, 6], [0, 1, 2, 3, 4, 5, 6, 7], [0, 1, 2, 3, 4, 5, 6, 7, 8], [0, 1, 2, 3, 4, 5, 6, 7, 8, 9], [0, 1, 2, 3, 4, 5, 6, 7, 8, 9, 10], [0, 1, 2, 3, 4, 5, 6, 7, 8, 9, 10, 11], [0, 1, 2, 3, 4, 5, 6, 7, 8, 9, 10, 11, 12], [0, 1, 2, 3, 4, 5, 6, 7, 8, 9, 10, 11, 12, 13], [0, 1, 2, 3, 4, 5, 6, 7, 8, 9], [0, 1, 2, 3, 4, 5, 6, 7, 8, 9, 15], [0, 1, 2, 3, 4, 5, 6, 7, 8, 9, 10, 11, 12, 13, 14, 15, 16], [0, 1, 2, 3, 4, 5, 6, 7, 8, 9, 10, 11, 12, 13, 14, 15, 16, 17], [0, 1, 2, 3, 4, 5, 6, 7, 8, 9, 10, 11, 12, 13, 14, 15, 16, 17, 18]] (by kernel_rfl) (by kernel_rfl)) ?_
  refine Zc (Z4 rfl (Zk (Zm (Zd rfl rfl (Iv 140) rfl (Zb (Zc (Zq (Zv (Zz (Zv (Zo ?_)))))))))))
  rw [show Zad k r = ((⟨k.epoch, k.log, k.items, k.claims⟩ : Kept), 140) from by first | exact Zfe (by omega) (by omega) | exact Zfg (by omega) (by omega) | exact Zf1 (by omega) (by omega) | exact Zfy (by omega) (by omega) (by omega) | exact (Zc8 (by omega) (by omega)).trans (Zdc (Za3 (by omega))) | exact (Zep (by omega) (by omega) (by omega)).trans (Zdc (Za3 (by omega))) | exact (Zef (by omega) (by omega) (by omega)).trans (Zdc (Za3 (by omega)))]
  exact Zi (v := Iv 140) rfl rfl rfl (by kernel_rfl) rfl
  refine Zn (vx := Iv r.item.epoch) (vy := Iv k.log) rfl rfl (.bool false) rfl rfl (Zd4 (by omega)) ?_
  refine Zf rfl rfl (.bool false) rfl (Zf rfl rfl (pt 0 0) rfl ?_)
  refine Zbs (p := pt 0 0) (v := pt 0 0) rfl rfl rfl rfl ?_
  refine Ze (b := 0) (o := 0) (n := 0) (o' := 0) rfl rfl rfl rfl rfl ?_
  refine Ze (b := 0) (o := 0) (n := 2) (o' := 2) rfl rfl rfl rfl rfl ?_
  refine Zl (p := pt 0 2) (v := slv 1 0 k.items.length k.items.length) rfl rfl rfl (by kernel_rfl) ?_
  refine Ze (b := 4) (o := 0) (n := 3) (o' := 3) rfl rfl rfl rfl rfl ?_
  refine Zl (p := pt 4 3) (v := Zai r.item) rfl rfl rfl (by kernel_rfl) ?_
  refine Z9 (e := [some (1, 0)]) (nid := 0) (Zwm (G := G) k.items k.items.length k.items.length rfl (by omega) (by omega) r.item) (vals := [slv 1 0 k.items.length k.items.length, Zai r.item]) (v := Iv (Zek k.items k.items.length r.item)) (H' := [mxB 4 ([Iv k.epoch, Iv k.log, slv 1 0 k.items.length k.items.length, slv 2 0 k.claims.length k.claims.length]), rwB Zh k.items, rwR Zj k.claims, rwR Zh r.items, mxB 150 ([Iv r.kind, Iv r.epoch, Iv r.from_] ++ (Zr r.item ++ ([slv 3 0 p q] ++ (Zs r.claim)))), hole]) rfl rfl rfl rfl rfl rfl rfl ⟨⟨⟨rfl, rfl, rfl, by first | omega | exact Nat.le_refl _, by first | omega | exact Nat.le_refl _⟩, rfl, trivial⟩, ⟨(Za1 rfl), trivial⟩, rfl, rfl, rfl⟩ rfl (by kernel_rfl) ?_
  by_cases h6 : (Zek k.items k.items.length r.item) ≠ 0
  refine Zn (vx := Iv (Zek k.items k.items.length r.item)) (vy := Iv 0) rfl rfl (.bool true) rfl rfl (Zed (by omega)) ?_
  refine Zg rfl rfl (.bool true) rfl ?_
  refine Zct (Zbh [[], [0], [0, 1], [], [3], [3, 4], [3, 4, 5], [3, 4, 5, 6], [0, 1, 2, 3, 4, 5, 6, 7], [0, 1, 2, 3, 4, 5, 6, 7, 8], [0, 1, 2, 3, 4, 5, 6, 7, 8, 9], [0, 1, 2, 3, 4, 5, 6, 7, 8, 9, 10], [0, 1, 2, 3, 4, 5, 6, 7, 8, 9, 10, 11], [0, 1, 2, 3, 4, 5, 6, 7, 8, 9, 10, 11, 12], [0, 1, 2, 3, 4, 5, 6, 7, 8, 9, 10, 11, 12, 13], [0, 1, 2, 3, 4, 5, 6, 7, 8, 9], [0, 1, 2, 3, 4, 5, 6, 7, 8, 9, 15], [0, 1, 2, 3, 4, 5, 6, 7, 8, 9, 10, 11, 12, 13, 14, 15, 16], [0, 1, 2, 3, 4, 5, 6, 7, 8, 9, 10, 11, 12, 13, 14, 15, 16, 17], [0, 1, 2, 3, 4, 5, 6, 7, 8, 9, 10, 11, 12, 13, 14, 15, 16, 17, 18]] (by kernel_rfl) (by kernel_rfl)) ?_
  refine Zc (Z4 rfl (Zk (Zm (Zd rfl rfl (Iv 140) rfl (Zb (Zc (Zq (Zv (Zz (Zv (Zo ?_)))))))))))
  rw [show Zad k r = ((⟨k.epoch, k.log, k.items, k.claims⟩ : Kept), 140) from by first | exact Zfe (by omega) (by omega) | exact Zfg (by omega) (by omega) | exact Zf1 (by omega) (by omega) | exact Zfy (by omega) (by omega) (by omega) | exact (Zc8 (by omega) (by omega)).trans (Zdc (Za3 (by omega))) | exact (Zep (by omega) (by omega) (by omega)).trans (Zdc (Za3 (by omega))) | exact (Zef (by omega) (by omega) (by omega)).trans (Zdc (Za3 (by omega)))]
  exact Zi (v := Iv 140) rfl rfl rfl (by kernel_rfl) rfl
  refine Zn (vx := Iv (Zek k.items k.items.length r.item)) (vy := Iv 0) rfl rfl (.bool false) rfl rfl (Zd4 (by omega)) ?_
  refine Zg rfl rfl (.bool false) rfl ?_
  refine Zct (Zbh [[], [0], [0, 1], [], [3], [3, 4], [3, 4, 5], [3, 4, 5, 6], [0, 1, 2, 3, 4, 5, 6, 7], [0, 1, 2, 3, 4, 5, 6, 7, 8], [0, 1, 2, 3, 4, 5, 6, 7, 8, 9], [0, 1, 2, 3, 4, 5, 6, 7, 8, 9, 10], [0, 1, 2, 3, 4, 5, 6, 7, 8, 9, 10, 11], [0, 1, 2, 3, 4, 5, 6, 7, 8, 9, 10, 11, 12], [0, 1, 2, 3, 4, 5, 6, 7, 8, 9, 10, 11, 12, 13], [0, 1, 2, 3, 4, 5, 6, 7, 8, 9], [0, 1, 2, 3, 4, 5, 6, 7, 8, 9, 15], [0, 1, 2, 3, 4, 5, 6, 7, 8, 9, 10, 11, 12, 13, 14, 15, 16], [0, 1, 2, 3, 4, 5, 6, 7, 8, 9, 10, 11, 12, 13, 14, 15, 16, 17], [0, 1, 2, 3, 4, 5, 6, 7, 8, 9, 10, 11, 12, 13, 14, 15, 16, 17, 18]] (by kernel_rfl) (by kernel_rfl)) ?_
  refine Zc (Zx rfl (Z8 (Zc ?_)))
  refine Zgu (by kernel_rfl) ?_
  refine Zf rfl rfl (pt 0 0) rfl (Zf rfl rfl (pt 0 0) rfl ?_)
  refine Zbs (p := pt 0 0) (v := pt 0 0) rfl rfl rfl rfl ?_
  refine Ze (b := 0) (o := 0) (n := 0) (o' := 0) rfl rfl rfl rfl rfl ?_
  refine Ze (b := 0) (o := 0) (n := 2) (o' := 2) rfl rfl rfl rfl rfl ?_
  refine Zl (p := pt 0 2) (v := slv 1 0 k.items.length k.items.length) rfl rfl rfl (by kernel_rfl) ?_
  refine Ze (b := 4) (o := 0) (n := 3) (o' := 3) rfl rfl rfl rfl rfl ?_
  refine Zl (p := pt 4 3) (v := Zai r.item) rfl rfl rfl (by kernel_rfl) ?_
  refine Zrj (vs := [(0, Zai r.item)]) (v := slv 5 0 1 1) (blk := rwB Zh [r.item]) (nid := 5) (H' := [mxB 4 ([Iv k.epoch, Iv k.log, slv 1 0 k.items.length k.items.length, slv 2 0 k.claims.length k.claims.length]), rwB Zh k.items, rwR Zj k.claims, rwR Zh r.items, mxB 150 ([Iv r.kind, Iv r.epoch, Iv r.from_] ++ (Zr r.item ++ ([slv 3 0 p q] ++ (Zs r.claim)))), rwB Zh [r.item]]) rfl rfl rfl (by kernel_rfl) (by kernel_rfl) ?_
  have hl3 : (k.items ++ [r.item]).length = k.items.length + 1 := by have := (rfl : _ = 1); first | (rw [List.length_append]; omega) | (rw [List.length_append, List.length_take]; omega) | (simp; omega) | simp
  refine Zgi (p := slv 1 0 k.items.length k.items.length) (q := slv 5 0 1 1) (v := slv 1 0 ((k.items ++ [r.item]).length) ((k.items ++ [r.item]).length)) (b := 1) (blk := rwB Zh (k.items ++ [r.item])) (H' := [mxB 4 ([Iv k.epoch, Iv k.log, dead, slv 2 0 k.claims.length k.claims.length]), rwB Zh (k.items ++ [r.item]), rwR Zj k.claims, rwR Zh r.items, mxB 150 ([Iv r.kind, Iv r.epoch, Iv r.from_] ++ (Zr r.item ++ ([slv 3 0 p q] ++ (Zs r.claim)))), rwB Zh [r.item]]) rfl rfl rfl (.inl ⟨_, rfl⟩) rfl rfl (Zi4 Zh (by_ := 216) (k := 1) (n' := ((k.items ++ [r.item]).length)) (ms := [r.item]) (fun _ => rfl) rfl rfl (by kernel_rfl) rfl rfl (by omega) (by omega) (by decide) (by omega)) rfl (by kernel_rfl) ?_
  refine Zbs (p := pt 0 0) (v := pt 0 0) rfl rfl rfl rfl ?_
  refine Ze (b := 0) (o := 0) (n := 0) (o' := 0) rfl rfl rfl rfl rfl ?_
  refine Ze (b := 0) (o := 0) (n := 2) (o' := 2) rfl rfl rfl rfl rfl ?_
  refine Zaa (p := pt 0 2) (v := slv 1 0 ((k.items ++ [r.item]).length) ((k.items ++ [r.item]).length)) (b := 0) (blk := mxB 4 ([Iv k.epoch, Iv k.log, slv 1 0 ((k.items ++ [r.item]).length) ((k.items ++ [r.item]).length), slv 2 0 k.claims.length k.claims.length])) (H' := [mxB 4 ([Iv k.epoch, Iv k.log, slv 1 0 ((k.items ++ [r.item]).length) ((k.items ++ [r.item]).length), slv 2 0 k.claims.length k.claims.length]), rwB Zh (k.items ++ [r.item]), rwR Zj k.claims, rwR Zh r.items, mxB 150 ([Iv r.kind, Iv r.epoch, Iv r.from_] ++ (Zr r.item ++ ([slv 3 0 p q] ++ (Zs r.claim)))), rwB Zh [r.item]]) rfl rfl rfl (by kernel_rfl) (by kernel_rfl) ?_
  refine Zct (Zbh [[], [], [1], [1, 2], [1, 2, 3], [1, 2, 3, 4], [], [6], [6, 7], [1, 2, 3, 4, 5, 6, 7, 8], [0, 1, 2, 3, 4, 5, 6, 7, 8, 9], [0, 1, 2, 3, 4, 5, 6, 7, 8, 9, 10], [0, 1, 2, 3, 4, 5, 6, 7, 8, 9, 10, 11], [0, 1, 2, 3, 4, 5, 6, 7, 8, 9, 10, 11, 12]] (by kernel_rfl) (by kernel_rfl)) ?_
  refine Z2 (Zc (Zk (Zk (Zm (Zf rfl rfl (pt 0 0) rfl ?_)))))
  refine Zbs (p := pt 0 0) (v := pt 0 0) rfl rfl rfl rfl ?_
  refine Ze (b := 0) (o := 0) (n := 0) (o' := 0) rfl rfl rfl rfl rfl ?_
  refine Zl (p := pt 0 0) (v := mxV ([Iv k.epoch, Iv k.log, slv 1 0 ((k.items ++ [r.item]).length) ((k.items ++ [r.item]).length), slv 2 0 k.claims.length k.claims.length])) rfl rfl rfl (by kernel_rfl) ?_
  refine Z9 (e := [some (1, 0), some (2, 0)]) (nid := 0) (Zdr (G := G) (⟨k.epoch, k.log, (k.items ++ [r.item]), k.claims⟩ : Kept) ((k.items ++ [r.item]).length) ((k.items ++ [r.item]).length) k.claims.length k.claims.length rfl rfl (by omega) (by omega) (by omega) (by omega)) (vals := [mxV ([Iv k.epoch, Iv k.log, slv 1 0 ((k.items ++ [r.item]).length) ((k.items ++ [r.item]).length), slv 2 0 k.claims.length k.claims.length])]) (v := Iv (Zcb (⟨k.epoch, k.log, (k.items ++ [r.item]), k.claims⟩ : Kept))) (H' := [mxB 4 ([Iv k.epoch, Iv k.log, slv 1 0 ((k.items ++ [r.item]).length) ((k.items ++ [r.item]).length), slv 2 0 k.claims.length k.claims.length]), rwB Zh (k.items ++ [r.item]), rwR Zj k.claims, rwR Zh r.items, mxB 150 ([Iv r.kind, Iv r.epoch, Iv r.from_] ++ (Zr r.item ++ ([slv 3 0 p q] ++ (Zs r.claim)))), rwB Zh [r.item]]) rfl rfl rfl rfl rfl rfl rfl ⟨⟨(Zac (by kernel_rfl) ⟨⟨rfl, rfl⟩, ⟨rfl, rfl⟩, ⟨rfl, rfl, rfl, by first | omega | exact Nat.le_refl _, by first | omega | exact Nat.le_refl _⟩, ⟨rfl, rfl, rfl, by first | omega | exact Nat.le_refl _, by first | omega | exact Nat.le_refl _⟩, trivial⟩), trivial⟩, ⟨(Za1 rfl), (Zab rfl), trivial⟩, rfl, rfl, rfl⟩ rfl (by kernel_rfl) ?_
  by_cases h7 : (Zcb (⟨k.epoch, k.log, (k.items ++ [r.item]), k.claims⟩ : Kept)) ≠ 0
  refine Zn (vx := Iv (Zcb (⟨k.epoch, k.log, (k.items ++ [r.item]), k.claims⟩ : Kept))) (vy := Iv 0) rfl rfl (.bool true) rfl rfl (Zed (by omega)) ?_
  refine Zb (Zc (Z4 rfl (Zk (Zm (Zd rfl rfl (Iv 140) rfl (Zb (Zc (Zq (Zv (Zo ?_))))))))))
  rw [show Zad k r = ((⟨k.epoch, k.log, (k.items ++ [r.item]), k.claims⟩ : Kept), 140) from by first | exact Zfe (by omega) (by omega) | exact Zfg (by omega) (by omega) | exact Zf1 (by omega) (by omega) | exact Zfy (by omega) (by omega) (by omega) | exact (Zc8 (by omega) (by omega)).trans (Zdc (Za3 (by omega))) | exact (Zep (by omega) (by omega) (by omega)).trans (Zdc (Za3 (by omega))) | exact (Zef (by omega) (by omega) (by omega)).trans (Zdc (Za3 (by omega)))]
  exact Zi (v := Iv 140) rfl rfl rfl (by kernel_rfl) rfl
  refine Zn (vx := Iv (Zcb (⟨k.epoch, k.log, (k.items ++ [r.item]), k.claims⟩ : Kept))) (vy := Iv 0) rfl rfl (.bool false) rfl rfl (Zd4 (by omega)) ?_
  refine Zb (Zc (Zx rfl (Z8 (Zc (Zk (Zm (Zd rfl rfl (Iv 0) rfl (Zb (Zc (Zq (Zo ?_)))))))))))
  rw [show Zad k r = ((⟨k.epoch, k.log, (k.items ++ [r.item]), k.claims⟩ : Kept), 0) from by first | exact (Zc8 (by omega) (by omega)).trans (Zhj (Zbw (by omega))) | exact (Zep (by omega) (by omega) (by omega)).trans (Zhj (Zbw (by omega))) | exact (Zef (by omega) (by omega) (by omega)).trans (Zhj (Zbw (by omega)))]
  exact Zi (v := Iv 0) rfl rfl rfl (by kernel_rfl) rfl
  refine Zn (vx := Iv r.kind) (vy := Iv 2) rfl rfl (.bool false) rfl rfl (Zbf (by omega)) ?_
  refine Zd rfl rfl (.bool false) rfl (Zb (Zc (Zx rfl (Zk (Zm ?_)))))
  refine Zn (vx := Iv r.kind) (vy := Iv 3) rfl rfl (.bool true) rfl rfl (Zao (by omega)) ?_
  refine Zd rfl rfl (.bool true) rfl (Zb (Zc (Z4 rfl (Zk (Zbm (Zk ?_))))))
  obtain ⟨hfr0, hfr1⟩ := hf (by omega)
  refine Zd6 (by kernel_rfl) ?_
  refine Ze (b := 4) (o := 0) (n := 1) (o' := 1) rfl rfl rfl rfl rfl ?_
  refine Zl (p := pt 4 1) (v := Iv r.epoch) rfl rfl rfl (by kernel_rfl) ?_
  refine Zf rfl rfl (pt 0 0) rfl ?_
  refine Zbs (p := pt 0 0) (v := pt 0 0) rfl rfl rfl rfl ?_
  refine Ze (b := 0) (o := 0) (n := 0) (o' := 0) rfl rfl rfl rfl rfl ?_
  refine Ze (b := 0) (o := 0) (n := 0) (o' := 0) rfl rfl rfl rfl rfl ?_
  refine Zl (p := pt 0 0) (v := Iv k.epoch) rfl rfl rfl (by kernel_rfl) ?_
  by_cases h8 : r.epoch < k.epoch
  refine Zn (vx := Iv r.epoch) (vy := Iv k.epoch) rfl rfl (.bool true) rfl rfl (Zea (by omega)) ?_
  refine Zd rfl rfl (.bool true) rfl ?_
  refine Zbe (Zan [[], [0], [], [2], [2, 3], [2, 3, 4], [2, 3, 4, 5], [0, 1, 2, 3, 4, 5, 6], [0, 1, 2, 3, 4, 5, 6, 7]] (by kernel_rfl) (by kernel_rfl)) ?_
  refine Zc (Z4 rfl (Zk (Zm (Zd rfl rfl (Iv 140) rfl (Zb (Zc (Zq (Zz (Zv (Zz (Zv (Zo ?_))))))))))))
  rw [show Zad k r = ((⟨k.epoch, k.log, k.items, k.claims⟩ : Kept), 140) from by first | exact Zfe (by omega) (by omega) | exact Zfg (by omega) (by omega) | exact Zf1 (by omega) (by omega) | exact Zfy (by omega) (by omega) (by omega) | exact (Zc8 (by omega) (by omega)).trans (Zdc (Za3 (by omega))) | exact (Zep (by omega) (by omega) (by omega)).trans (Zdc (Za3 (by omega))) | exact (Zef (by omega) (by omega) (by omega)).trans (Zdc (Za3 (by omega)))]
  exact Zi (v := Iv 140) rfl rfl rfl (by kernel_rfl) rfl
  refine Zn (vx := Iv r.epoch) (vy := Iv k.epoch) rfl rfl (.bool false) rfl rfl (Zeb (by omega)) ?_
  refine Zd rfl rfl (.bool false) rfl ?_
  refine Zbe (Zan [[], [0], [], [2], [2, 3], [2, 3, 4], [2, 3, 4, 5], [0, 1, 2, 3, 4, 5, 6], [0, 1, 2, 3, 4, 5, 6, 7]] (by kernel_rfl) (by kernel_rfl)) ?_
  refine Zc (Zx rfl (Zk ?_))
  refine Zd6 (by kernel_rfl) ?_
  refine Ze (b := 4) (o := 0) (n := 2) (o' := 2) rfl rfl rfl rfl rfl ?_
  refine Zl (p := pt 4 2) (v := Iv r.from_) rfl rfl rfl (by kernel_rfl) ?_
  refine Zf rfl rfl (pt 0 0) rfl ?_
  refine Zbs (p := pt 0 0) (v := pt 0 0) rfl rfl rfl rfl ?_
  refine Ze (b := 0) (o := 0) (n := 0) (o' := 0) rfl rfl rfl rfl rfl ?_
  refine Ze (b := 0) (o := 0) (n := 2) (o' := 2) rfl rfl rfl rfl rfl ?_
  refine Zl (p := pt 0 2) (v := slv 1 0 k.items.length k.items.length) rfl rfl rfl (by kernel_rfl) ?_
  refine Zci (p := slv 1 0 k.items.length k.items.length) (v := Iv (k.items.length : Nat)) rfl rfl rfl rfl ?_
  by_cases h9 : (k.items.length : Nat) < r.from_
  refine Zn (vx := Iv r.from_) (vy := Iv (k.items.length : Nat)) rfl rfl (.bool true) rfl rfl (Zeq (by omega)) ?_
  refine Zd rfl rfl (.bool true) rfl ?_
  refine Zbe (Zan [[], [0], [], [2], [2, 3], [2, 3, 4], [2, 3, 4, 5], [2, 3, 4, 5, 6], [0, 1, 2, 3, 4, 5, 6, 7], [0, 1, 2, 3, 4, 5, 6, 7, 8]] (by kernel_rfl) (by kernel_rfl)) ?_
  refine Zc (Z4 rfl (Zk (Zm (Zd rfl rfl (Iv 141) rfl (Zb (Zc (Zq (Zz (Zv (Zz (Zv (Zo ?_))))))))))))
  rw [show Zad k r = ((⟨k.epoch, k.log, k.items, k.claims⟩ : Kept), 141) from by first | exact Zfe (by omega) (by omega) | exact Zfg (by omega) (by omega) | exact Zf1 (by omega) (by omega) | exact Zfy (by omega) (by omega) (by omega) | exact (Zc8 (by omega) (by omega)).trans (Zdc (Za3 (by omega))) | exact (Zep (by omega) (by omega) (by omega)).trans (Zdc (Za3 (by omega))) | exact (Zef (by omega) (by omega) (by omega)).trans (Zdc (Za3 (by omega)))]
  exact Zi (v := Iv 141) rfl rfl rfl (by kernel_rfl) rfl
  refine Zn (vx := Iv r.from_) (vy := Iv (k.items.length : Nat)) rfl rfl (.bool false) rfl rfl (Zem (by omega)) ?_
  refine Zd rfl rfl (.bool false) rfl ?_
  refine Zbe (Zan [[], [0], [], [2], [2, 3], [2, 3, 4], [2, 3, 4, 5], [2, 3, 4, 5, 6], [0, 1, 2, 3, 4, 5, 6, 7], [0, 1, 2, 3, 4, 5, 6, 7, 8]] (by kernel_rfl) (by kernel_rfl)) ?_
  refine Zc (Zx rfl (Z8 (Z2 (Zc (Zk ?_)))))
  refine Zd6 (by kernel_rfl) ?_
  refine Zf rfl rfl (pt 0 0) rfl (Zf rfl rfl (pt 0 0) rfl ?_)
  refine Ze (b := 4) (o := 0) (n := 1) (o' := 1) rfl rfl rfl rfl rfl ?_
  refine Zl (p := pt 4 1) (v := Iv r.epoch) rfl rfl rfl (by kernel_rfl) ?_
  refine Ze (b := 4) (o := 0) (n := 1) (o' := 1) rfl rfl rfl rfl rfl ?_
  refine Zl (p := pt 4 1) (v := Iv r.epoch) rfl rfl rfl (by kernel_rfl) ?_
  refine Zbs (p := pt 0 0) (v := pt 0 0) rfl rfl rfl rfl ?_
  refine Ze (b := 0) (o := 0) (n := 0) (o' := 0) rfl rfl rfl rfl rfl ?_
  refine Ze (b := 0) (o := 0) (n := 0) (o' := 0) rfl rfl rfl rfl rfl ?_
  refine Zaa (p := pt 0 0) (v := Iv r.epoch) (b := 0) (blk := mxB 4 ([Iv r.epoch, Iv k.log, slv 1 0 k.items.length k.items.length, slv 2 0 k.claims.length k.claims.length])) (H' := [mxB 4 ([Iv r.epoch, Iv k.log, slv 1 0 k.items.length k.items.length, slv 2 0 k.claims.length k.claims.length]), rwB Zh k.items, rwR Zj k.claims, rwR Zh r.items, mxB 150 ([Iv r.kind, Iv r.epoch, Iv r.from_] ++ (Zr r.item ++ ([slv 3 0 p q] ++ (Zs r.claim)))), hole]) rfl rfl rfl (by kernel_rfl) (by kernel_rfl) ?_
  refine Zbs (p := pt 0 0) (v := pt 0 0) rfl rfl rfl rfl ?_
  refine Ze (b := 0) (o := 0) (n := 0) (o' := 0) rfl rfl rfl rfl rfl ?_
  refine Ze (b := 0) (o := 0) (n := 1) (o' := 1) rfl rfl rfl rfl rfl ?_
  refine Zaa (p := pt 0 1) (v := Iv r.epoch) (b := 0) (blk := mxB 4 ([Iv r.epoch, Iv r.epoch, slv 1 0 k.items.length k.items.length, slv 2 0 k.claims.length k.claims.length])) (H' := [mxB 4 ([Iv r.epoch, Iv r.epoch, slv 1 0 k.items.length k.items.length, slv 2 0 k.claims.length k.claims.length]), rwB Zh k.items, rwR Zj k.claims, rwR Zh r.items, mxB 150 ([Iv r.kind, Iv r.epoch, Iv r.from_] ++ (Zr r.item ++ ([slv 3 0 p q] ++ (Zs r.claim)))), hole]) rfl rfl rfl (by kernel_rfl) (by kernel_rfl) ?_
  refine Zbe (Zan [[], [], [], [2], [], [4], [0, 2, 3], [0, 2, 3, 6], [0, 2, 3, 6, 7], [0, 2, 3, 6, 7, 8], [0, 1, 2, 3, 4, 5, 6, 7, 8, 9], [0, 1, 2, 3, 4, 5, 6, 7, 8, 9, 10], [0, 1, 2, 3, 4, 5, 6, 7, 8, 9, 10, 11], [0, 1, 2, 3, 4, 5, 6, 7, 8, 9, 10, 11, 12]] (by kernel_rfl) (by kernel_rfl)) ?_
  refine Zc ?_
  refine Zgu (by kernel_rfl) ?_
  refine Zf rfl rfl (pt 0 0) rfl (Zf rfl rfl (pt 0 0) rfl ?_)
  refine Zbs (p := pt 0 0) (v := pt 0 0) rfl rfl rfl rfl ?_
  refine Ze (b := 0) (o := 0) (n := 0) (o' := 0) rfl rfl rfl rfl rfl ?_
  refine Ze (b := 0) (o := 0) (n := 2) (o' := 2) rfl rfl rfl rfl rfl ?_
  refine Zl (p := pt 0 2) (v := slv 1 0 k.items.length k.items.length) rfl rfl rfl (by kernel_rfl) ?_
  refine Ze (b := 4) (o := 0) (n := 2) (o' := 2) rfl rfl rfl rfl rfl ?_
  refine Zl (p := pt 4 2) (v := Iv r.from_) rfl rfl rfl (by kernel_rfl) ?_
  refine Zuq (p := slv 1 0 k.items.length k.items.length) (vl := none) (vh := some (Iv r.from_)) (v := slv 1 0 r.from_.toNat k.items.length) rfl rfl rfl rfl rfl (Zt3 (h := r.from_.toNat) rfl rfl (by omega) (by omega) rfl) ?_
  refine Ze (b := 4) (o := 0) (n := 113) (o' := 113) rfl rfl rfl rfl rfl ?_
  refine Zl (p := pt 4 113) (v := slv 3 0 p q) rfl rfl rfl (by kernel_rfl) ?_
  have hl4 : (k.items.take r.from_.toNat ++ r.items).length = r.from_.toNat + p := by have := hp; first | (rw [List.length_append]; omega) | (rw [List.length_append, List.length_take]; omega) | (simp; omega) | simp
  refine Zgi (p := slv 1 0 r.from_.toNat k.items.length) (q := slv 3 0 p q) (v := slv 1 0 ((k.items.take r.from_.toNat ++ r.items).length) ((k.items.take r.from_.toNat ++ r.items).length)) (b := 1) (blk := rwB Zh (k.items.take r.from_.toNat ++ r.items)) (H' := [mxB 4 ([Iv r.epoch, Iv r.epoch, dead, slv 2 0 k.claims.length k.claims.length]), rwB Zh (k.items.take r.from_.toNat ++ r.items), rwR Zj k.claims, rwR Zh r.items, mxB 150 ([Iv r.kind, Iv r.epoch, Iv r.from_] ++ (Zr r.item ++ ([slv 3 0 p q] ++ (Zs r.claim)))), hole]) rfl rfl rfl (.inl ⟨_, rfl⟩) rfl rfl (Zst Zh (by_ := 216) (k := p) (n' := ((k.items.take r.from_.toNat ++ r.items).length)) (ms := r.items) (fun _ => rfl) rfl rfl (Zg8 Zh rfl rfl (by have := hp; omega)) rfl rfl (by omega) (by omega) (by decide) (by omega)) rfl (by kernel_rfl) ?_
  refine Zbs (p := pt 0 0) (v := pt 0 0) rfl rfl rfl rfl ?_
  refine Ze (b := 0) (o := 0) (n := 0) (o' := 0) rfl rfl rfl rfl rfl ?_
  refine Ze (b := 0) (o := 0) (n := 2) (o' := 2) rfl rfl rfl rfl rfl ?_
  refine Zaa (p := pt 0 2) (v := slv 1 0 ((k.items.take r.from_.toNat ++ r.items).length) ((k.items.take r.from_.toNat ++ r.items).length)) (b := 0) (blk := mxB 4 ([Iv r.epoch, Iv r.epoch, slv 1 0 ((k.items.take r.from_.toNat ++ r.items).length) ((k.items.take r.from_.toNat ++ r.items).length), slv 2 0 k.claims.length k.claims.length])) (H' := [mxB 4 ([Iv r.epoch, Iv r.epoch, slv 1 0 ((k.items.take r.from_.toNat ++ r.items).length) ((k.items.take r.from_.toNat ++ r.items).length), slv 2 0 k.claims.length k.claims.length]), rwB Zh (k.items.take r.from_.toNat ++ r.items), rwR Zj k.claims, rwR Zh r.items, mxB 150 ([Iv r.kind, Iv r.epoch, Iv r.from_] ++ (Zr r.item ++ ([slv 3 0 p q] ++ (Zs r.claim)))), hole]) rfl rfl rfl (by kernel_rfl) (by kernel_rfl) ?_
  refine Zct (Zbh [[], [], [1], [1, 2], [1, 2, 3], [1, 2, 3, 4], [], [6], [1, 2, 3, 4, 5, 6, 7], [], [9], [1, 2, 3, 4, 5, 6, 7, 8, 9, 10], [0, 1, 2, 3, 4, 5, 6, 7, 8, 9, 10, 11], [0, 1, 2, 3, 4, 5, 6, 7, 8, 9, 10, 11, 12], [0, 1, 2, 3, 4, 5, 6, 7, 8, 9, 10, 11, 12, 13], [0, 1, 2, 3, 4, 5, 6, 7, 8, 9, 10, 11, 12, 13, 14]] (by kernel_rfl) (by kernel_rfl)) ?_
  refine Z2 (Zc (Zk (Zk (Zm (Zf rfl rfl (pt 0 0) rfl ?_)))))
  refine Zbs (p := pt 0 0) (v := pt 0 0) rfl rfl rfl rfl ?_
  refine Ze (b := 0) (o := 0) (n := 0) (o' := 0) rfl rfl rfl rfl rfl ?_
  refine Zl (p := pt 0 0) (v := mxV ([Iv r.epoch, Iv r.epoch, slv 1 0 ((k.items.take r.from_.toNat ++ r.items).length) ((k.items.take r.from_.toNat ++ r.items).length), slv 2 0 k.claims.length k.claims.length])) rfl rfl rfl (by kernel_rfl) ?_
  refine Z9 (e := [some (1, 0), some (2, 0)]) (nid := 0) (Zdr (G := G) (⟨r.epoch, r.epoch, (k.items.take r.from_.toNat ++ r.items), k.claims⟩ : Kept) ((k.items.take r.from_.toNat ++ r.items).length) ((k.items.take r.from_.toNat ++ r.items).length) k.claims.length k.claims.length rfl rfl (by omega) (by omega) (by omega) (by omega)) (vals := [mxV ([Iv r.epoch, Iv r.epoch, slv 1 0 ((k.items.take r.from_.toNat ++ r.items).length) ((k.items.take r.from_.toNat ++ r.items).length), slv 2 0 k.claims.length k.claims.length])]) (v := Iv (Zcb (⟨r.epoch, r.epoch, (k.items.take r.from_.toNat ++ r.items), k.claims⟩ : Kept))) (H' := [mxB 4 ([Iv r.epoch, Iv r.epoch, slv 1 0 ((k.items.take r.from_.toNat ++ r.items).length) ((k.items.take r.from_.toNat ++ r.items).length), slv 2 0 k.claims.length k.claims.length]), rwB Zh (k.items.take r.from_.toNat ++ r.items), rwR Zj k.claims, rwR Zh r.items, mxB 150 ([Iv r.kind, Iv r.epoch, Iv r.from_] ++ (Zr r.item ++ ([slv 3 0 p q] ++ (Zs r.claim)))), hole]) rfl rfl rfl rfl rfl rfl rfl ⟨⟨(Zac (by kernel_rfl) ⟨⟨rfl, rfl⟩, ⟨rfl, rfl⟩, ⟨rfl, rfl, rfl, by first | omega | exact Nat.le_refl _, by first | omega | exact Nat.le_refl _⟩, ⟨rfl, rfl, rfl, by first | omega | exact Nat.le_refl _, by first | omega | exact Nat.le_refl _⟩, trivial⟩), trivial⟩, ⟨(Za1 rfl), (Zab rfl), trivial⟩, rfl, rfl, rfl⟩ rfl (by kernel_rfl) ?_
  by_cases h10 : (Zcb (⟨r.epoch, r.epoch, (k.items.take r.from_.toNat ++ r.items), k.claims⟩ : Kept)) ≠ 0
  refine Zn (vx := Iv (Zcb (⟨r.epoch, r.epoch, (k.items.take r.from_.toNat ++ r.items), k.claims⟩ : Kept))) (vy := Iv 0) rfl rfl (.bool true) rfl rfl (Zed (by omega)) ?_
  refine Zb (Zc (Z4 rfl (Zk (Zm (Zd rfl rfl (Iv 140) rfl (Zb (Zc (Zq (Zv (Zo ?_))))))))))
  rw [show Zad k r = ((⟨r.epoch, r.epoch, (k.items.take r.from_.toNat ++ r.items), k.claims⟩ : Kept), 140) from by first | exact Zfe (by omega) (by omega) | exact Zfg (by omega) (by omega) | exact Zf1 (by omega) (by omega) | exact Zfy (by omega) (by omega) (by omega) | exact (Zc8 (by omega) (by omega)).trans (Zdc (Za3 (by omega))) | exact (Zep (by omega) (by omega) (by omega)).trans (Zdc (Za3 (by omega))) | exact (Zef (by omega) (by omega) (by omega)).trans (Zdc (Za3 (by omega)))]
  exact Zi (v := Iv 140) rfl rfl rfl (by kernel_rfl) rfl
  refine Zn (vx := Iv (Zcb (⟨r.epoch, r.epoch, (k.items.take r.from_.toNat ++ r.items), k.claims⟩ : Kept))) (vy := Iv 0) rfl rfl (.bool false) rfl rfl (Zd4 (by omega)) ?_
  refine Zb (Zc (Zx rfl (Z8 (Zc (Zk (Zm (Zd rfl rfl (Iv 0) rfl (Zb (Zc (Zq (Zo ?_)))))))))))
  rw [show Zad k r = ((⟨r.epoch, r.epoch, (k.items.take r.from_.toNat ++ r.items), k.claims⟩ : Kept), 0) from by first | exact (Zc8 (by omega) (by omega)).trans (Zhj (Zbw (by omega))) | exact (Zep (by omega) (by omega) (by omega)).trans (Zhj (Zbw (by omega))) | exact (Zef (by omega) (by omega) (by omega)).trans (Zhj (Zbw (by omega)))]
  exact Zi (v := Iv 0) rfl rfl rfl (by kernel_rfl) rfl
theorem Zu7 (k : Kept) (c d : Nat) (hc : k.items.length ≤ c) (hd : k.claims.length ≤ d) (hb : k.items.length ≤ 100000) (hb2 : k.claims.length ≤ 100000) (r : Rec) (p q : Nat) (hp : r.items.length = p) (hq : p ≤ q) (hpb : p ≤ 100000) (hk3 : r.kind ≤ 3) : Zak Try.prog G 19 [mxV ([Iv k.epoch, Iv k.log, slv 0 0 k.items.length c, slv 1 0 k.claims.length d]), mxV ([Iv r.kind, Iv r.epoch, Iv r.from_] ++ (Zr r.item ++ ([slv 2 0 p q] ++ (Zs r.claim))))] [rwR Zh k.items, rwR Zj k.claims, rwR Zh r.items] (.tuple #[mxV ([Iv ((Z0 k r).1.epoch), Iv ((Z0 k r).1.log), slv 3 0 ((Z0 k r).1.items.length) ((Z0 k r).1.items.length), slv 4 0 ((Z0 k r).1.claims.length) ((Z0 k r).1.claims.length)]), Iv (Z0 k r).2]) [rwR Zh k.items, rwR Zj k.claims, rwR Zh r.items, rwB Zh (Z0 k r).1.items, rwB Zj (Z0 k r).1.claims] := by
  refine Zb5 (fn := Try.f19) (nt := 42) rfl rfl rfl rfl ?_
  refine Za5 8 (H' := [rwR Zh k.items, rwR Zj k.claims, rwR Zh r.items, hole, hole, hole, hole, hole, hole, hole, hole]) rfl ?_
  refine Zk (Zm ?_)
  refine Zch (v := mxV ([Iv k.epoch, Iv k.log, slv 0 0 k.items.length c, slv 1 0 k.claims.length d])) (b := mxB 4 ([Iv k.epoch, Iv k.log, slv 0 0 k.items.length c, slv 1 0 k.claims.length d])) (nid := 3) (H' := [rwR Zh k.items, rwR Zj k.claims, rwR Zh r.items, mxB 4 ([Iv k.epoch, Iv k.log, slv 0 0 k.items.length c, slv 1 0 k.claims.length d]), hole, hole, hole, hole, hole, hole, hole]) rfl rfl rfl (by kernel_rfl) (by kernel_rfl) ?_
  refine Zch (v := mxV ([Iv r.kind, Iv r.epoch, Iv r.from_] ++ (Zr r.item ++ ([slv 2 0 p q] ++ (Zs r.claim))))) (b := mxB 150 ([Iv r.kind, Iv r.epoch, Iv r.from_] ++ (Zr r.item ++ ([slv 2 0 p q] ++ (Zs r.claim))))) (nid := 4) (H' := [rwR Zh k.items, rwR Zj k.claims, rwR Zh r.items, mxB 4 ([Iv k.epoch, Iv k.log, slv 0 0 k.items.length c, slv 1 0 k.claims.length d]), mxB 150 ([Iv r.kind, Iv r.epoch, Iv r.from_] ++ (Zr r.item ++ ([slv 2 0 p q] ++ (Zs r.claim)))), hole, hole, hole, hole, hole, hole]) rfl rfl rfl (by kernel_rfl) (by kernel_rfl) ?_
  refine Zbk (b := mxB 4 ([Iv 0, Iv 0, .slice none 0 0, .slice none 0 0])) (nid := 5) (H' := [rwR Zh k.items, rwR Zj k.claims, rwR Zh r.items, mxB 4 ([Iv k.epoch, Iv k.log, slv 0 0 k.items.length c, slv 1 0 k.claims.length d]), mxB 150 ([Iv r.kind, Iv r.epoch, Iv r.from_] ++ (Zr r.item ++ ([slv 2 0 p q] ++ (Zs r.claim)))), mxB 4 ([Iv 0, Iv 0, .slice none 0 0, .slice none 0 0]), hole, hole, hole, hole, hole]) rfl rfl (by kernel_rfl) (by kernel_rfl) ?_
  refine Zd rfl rfl (Iv 0) rfl (Zb (Zc (Zk (Zbm (Zk (Zm ?_))))))
  refine Zl (p := pt 3 0) (v := mxV ([Iv k.epoch, Iv k.log, slv 0 0 k.items.length c, slv 1 0 k.claims.length d])) rfl rfl rfl (by kernel_rfl) ?_
  refine Z9 (e := [some (0, 0), some (1, 0)]) (nid := 0) (Zdr (G := G) k k.items.length c k.claims.length d rfl rfl (by omega) (by omega) (by omega) (by omega)) (vals := [mxV ([Iv k.epoch, Iv k.log, slv 0 0 k.items.length c, slv 1 0 k.claims.length d])]) (v := Iv (Zcb k)) (H' := [rwR Zh k.items, rwR Zj k.claims, rwR Zh r.items, mxB 4 ([Iv k.epoch, Iv k.log, slv 0 0 k.items.length c, slv 1 0 k.claims.length d]), mxB 150 ([Iv r.kind, Iv r.epoch, Iv r.from_] ++ (Zr r.item ++ ([slv 2 0 p q] ++ (Zs r.claim)))), mxB 4 ([Iv 0, Iv 0, .slice none 0 0, .slice none 0 0]), hole, hole, hole, hole, hole]) rfl rfl rfl rfl rfl rfl rfl ⟨⟨(Zac (by kernel_rfl) ⟨⟨rfl, rfl⟩, ⟨rfl, rfl⟩, ⟨rfl, rfl, rfl, by first | omega | exact Nat.le_refl _, by first | omega | exact Nat.le_refl _⟩, ⟨rfl, rfl, rfl, by first | omega | exact Nat.le_refl _, by first | omega | exact Nat.le_refl _⟩, trivial⟩), trivial⟩, ⟨(Zab rfl), (Zab rfl), trivial⟩, rfl, rfl, rfl⟩ rfl (by kernel_rfl) ?_
  by_cases h1 : (Zcb k) ≠ 0
  refine Zn (vx := Iv (Zcb k)) (vy := Iv 0) rfl rfl (.bool true) rfl rfl (Zed (by omega)) ?_
  refine Zd rfl rfl (.bool true) rfl (Zb (Zc (Z4 rfl (Zk (Zm ?_)))))
  refine Zbj (vs := []) (v := mxV ([Iv 0, Iv 0, .slice none 0 0, .slice none 0 0])) rfl rfl rfl (by kernel_rfl) ?_
  refine Zaa (p := pt 5 0) (v := mxV ([Iv 0, Iv 0, .slice none 0 0, .slice none 0 0])) (b := 5) (blk := mxB 4 ([Iv 0, Iv 0, .slice none 0 0, .slice none 0 0])) (H' := [rwR Zh k.items, rwR Zj k.claims, rwR Zh r.items, mxB 4 ([Iv k.epoch, Iv k.log, slv 0 0 k.items.length c, slv 1 0 k.claims.length d]), mxB 150 ([Iv r.kind, Iv r.epoch, Iv r.from_] ++ (Zr r.item ++ ([slv 2 0 p q] ++ (Zs r.claim)))), mxB 4 ([Iv 0, Iv 0, .slice none 0 0, .slice none 0 0]), hole, hole, hole, hole, hole]) rfl rfl rfl (by kernel_rfl) (by kernel_rfl) ?_
  refine Zd rfl rfl (Iv 1) rfl (Zb (Zc ?_))
  refine Zfq (Zcz.nilCell (k := 5) (j := 2) (b := 6) true 110 rfl (by decide) rfl (by show 0 < 4; decide) rfl rfl) ?_
  refine Zfq (Zcz.nilCell (k := 5) (j := 3) (b := 7) true 36 rfl (by decide) rfl (by show 0 < 4; decide) rfl rfl) ?_
  refine Zq (Zz (Zv (Zo ?_)))
  rw [show Z0 k r = (⟨0, 0, [], []⟩, 1) from Zwn (Za3 (by omega))]
  exact Zcc [0, 1, 2, 6, 7] (v := .tuple #[mxV ([Iv 0, Iv 0, slv 6 0 0 0, slv 7 0 0 0]), Iv 1]) rfl (by kernel_rfl) rfl rfl (by decide) (by simp [Zc6, rwB, rwR, Zh, Zj]) ⟨(Zac (by kernel_rfl) ⟨⟨rfl, rfl⟩, ⟨rfl, rfl⟩, ⟨rfl, rfl, rfl, by first | omega | exact Nat.le_refl _ | exact Nat.zero_le _ | (dsimp only; omega), by first | omega | exact Nat.le_refl _ | exact Nat.zero_le _ | (dsimp only; omega)⟩, ⟨rfl, rfl, rfl, by first | omega | exact Nat.le_refl _ | exact Nat.zero_le _ | (dsimp only; omega), by first | omega | exact Nat.le_refl _ | exact Nat.zero_le _ | (dsimp only; omega)⟩, trivial⟩), rfl, trivial⟩
  refine Zn (vx := Iv (Zcb k)) (vy := Iv 0) rfl rfl (.bool false) rfl rfl (Zd4 (by omega)) ?_
  refine Zd rfl rfl (.bool false) rfl (Zb (Zc (Zx rfl (Zk (Zm ?_)))))
  refine Zl (p := pt 4 0) (v := mxV ([Iv r.kind, Iv r.epoch, Iv r.from_] ++ (Zr r.item ++ ([slv 2 0 p q] ++ (Zs r.claim))))) rfl rfl rfl (by kernel_rfl) ?_
  refine Z9 (e := [some (2, 0)]) (nid := 0) (Zu6 (G := G) r p q hp (by omega) (by omega)) (vals := [mxV ([Iv r.kind, Iv r.epoch, Iv r.from_] ++ (Zr r.item ++ ([slv 2 0 p q] ++ (Zs r.claim))))]) (v := .bool (decide (Zce r))) (H' := [rwR Zh k.items, rwR Zj k.claims, rwR Zh r.items, mxB 4 ([Iv k.epoch, Iv k.log, slv 0 0 k.items.length c, slv 1 0 k.claims.length d]), mxB 150 ([Iv r.kind, Iv r.epoch, Iv r.from_] ++ (Zr r.item ++ ([slv 2 0 p q] ++ (Zs r.claim)))), mxB 4 ([Iv 0, Iv 0, .slice none 0 0, .slice none 0 0]), hole, hole, hole, hole, hole]) rfl rfl rfl rfl rfl rfl rfl ⟨⟨(Zac (by kernel_rfl) (Zae ⟨⟨rfl, rfl⟩, ⟨rfl, rfl⟩, ⟨rfl, rfl⟩, trivial⟩ (Zae (Zam (by kernel_rfl)) (Zae ⟨⟨rfl, rfl, rfl, by first | omega | exact Nat.le_refl _, by first | omega | exact Nat.le_refl _⟩, trivial⟩ (Zam (by kernel_rfl)))))), trivial⟩, ⟨(Zab rfl), trivial⟩, rfl, rfl, rfl⟩ rfl (by kernel_rfl) ?_
  rcases Bool.eq_false_or_eq_true (decide (Zce r)) with h2 | h2
  refine Zd3 (vx := .bool (decide (Zce r))) rfl rfl (.bool false) rfl (Eq.trans Zbx (congrArg (fun b => some (Value.bool !b)) h2)) ?_
  refine Zd rfl rfl (.bool false) rfl (Zb (Zc (Zx rfl (Z8 (Z2 (Zc (Zk ?_)))))))
  refine Zgu (by kernel_rfl) ?_
  refine Ze (b := 3) (o := 0) (n := 2) (o' := 2) rfl rfl rfl rfl rfl ?_
  refine Zl (p := pt 3 2) (v := slv 0 0 k.items.length c) rfl rfl rfl (by kernel_rfl) ?_
  refine Z9 (e := [some (0, 0)]) (nid := 6) (Zr7 (G := G) k.items k.items.length c rfl (by omega) (by omega)) (vals := [slv 0 0 k.items.length c]) (v := slv 6 0 k.items.length k.items.length) (H' := [rwR Zh k.items, rwR Zj k.claims, rwR Zh r.items, mxB 4 ([Iv k.epoch, Iv k.log, slv 0 0 k.items.length c, slv 1 0 k.claims.length d]), mxB 150 ([Iv r.kind, Iv r.epoch, Iv r.from_] ++ (Zr r.item ++ ([slv 2 0 p q] ++ (Zs r.claim)))), mxB 4 ([Iv 0, Iv 0, .slice none 0 0, .slice none 0 0]), rwB Zh k.items, hole, hole, hole, hole]) rfl rfl rfl rfl rfl rfl rfl ⟨⟨⟨rfl, rfl, rfl, by first | omega | exact Nat.le_refl _, by first | omega | exact Nat.le_refl _⟩, trivial⟩, ⟨(Zab rfl), trivial⟩, rfl, rfl, rfl⟩ (by kernel_rfl) (by kernel_rfl) ?_
  refine Ze (b := 3) (o := 0) (n := 3) (o' := 3) rfl rfl rfl rfl rfl ?_
  refine Zl (p := pt 3 3) (v := slv 1 0 k.claims.length d) rfl rfl rfl (by kernel_rfl) ?_
  refine Z9 (e := [some (1, 0)]) (nid := 7) (Zsc (G := G) k.claims k.claims.length d rfl (by omega) (by omega)) (vals := [slv 1 0 k.claims.length d]) (v := slv 7 0 k.claims.length k.claims.length) (H' := [rwR Zh k.items, rwR Zj k.claims, rwR Zh r.items, mxB 4 ([Iv k.epoch, Iv k.log, slv 0 0 k.items.length c, slv 1 0 k.claims.length d]), mxB 150 ([Iv r.kind, Iv r.epoch, Iv r.from_] ++ (Zr r.item ++ ([slv 2 0 p q] ++ (Zs r.claim)))), mxB 4 ([Iv 0, Iv 0, .slice none 0 0, .slice none 0 0]), rwB Zh k.items, rwB Zj k.claims, hole, hole, hole]) rfl rfl rfl rfl rfl rfl rfl ⟨⟨⟨rfl, rfl, rfl, by first | omega | exact Nat.le_refl _, by first | omega | exact Nat.le_refl _⟩, trivial⟩, ⟨(Zab rfl), trivial⟩, rfl, rfl, rfl⟩ (by kernel_rfl) (by kernel_rfl) ?_
  refine Ze (b := 3) (o := 0) (n := 2) (o' := 2) rfl rfl rfl rfl rfl ?_
  refine Zaa (p := pt 3 2) (v := slv 6 0 k.items.length k.items.length) (b := 3) (blk := mxB 4 ([Iv k.epoch, Iv k.log, slv 6 0 k.items.length k.items.length, slv 1 0 k.claims.length d])) (H' := [rwR Zh k.items, rwR Zj k.claims, rwR Zh r.items, mxB 4 ([Iv k.epoch, Iv k.log, slv 6 0 k.items.length k.items.length, slv 1 0 k.claims.length d]), mxB 150 ([Iv r.kind, Iv r.epoch, Iv r.from_] ++ (Zr r.item ++ ([slv 2 0 p q] ++ (Zs r.claim)))), mxB 4 ([Iv 0, Iv 0, .slice none 0 0, .slice none 0 0]), rwB Zh k.items, rwB Zj k.claims, hole, hole, hole]) rfl rfl rfl (by kernel_rfl) (by kernel_rfl) ?_
  refine Ze (b := 3) (o := 0) (n := 3) (o' := 3) rfl rfl rfl rfl rfl ?_
  refine Zaa (p := pt 3 3) (v := slv 7 0 k.claims.length k.claims.length) (b := 3) (blk := mxB 4 ([Iv k.epoch, Iv k.log, slv 6 0 k.items.length k.items.length, slv 7 0 k.claims.length k.claims.length])) (H' := [rwR Zh k.items, rwR Zj k.claims, rwR Zh r.items, mxB 4 ([Iv k.epoch, Iv k.log, slv 6 0 k.items.length k.items.length, slv 7 0 k.claims.length k.claims.length]), mxB 150 ([Iv r.kind, Iv r.epoch, Iv r.from_] ++ (Zr r.item ++ ([slv 2 0 p q] ++ (Zs r.claim)))), mxB 4 ([Iv 0, Iv 0, .slice none 0 0, .slice none 0 0]), rwB Zh k.items, rwB Zj k.claims, hole, hole, hole]) rfl rfl rfl (by kernel_rfl) (by kernel_rfl) ?_
  refine Zct (Zbh [[], [0], [0, 1], [], [3], [0, 1, 2, 3, 4], [0, 1, 2, 3, 4], [0, 1, 2, 3, 4, 5, 6], [0, 1, 2, 3, 4, 5, 6, 7], [0, 1, 2, 3, 4, 5, 6, 7, 8]] (by kernel_rfl) (by kernel_rfl)) ?_
  refine Zc (Zk (Zm ?_))
  refine Zl (p := pt 3 0) (v := mxV ([Iv k.epoch, Iv k.log, slv 6 0 k.items.length k.items.length, slv 7 0 k.claims.length k.claims.length])) rfl rfl rfl (by kernel_rfl) ?_
  refine Zbj (vs := [(0, mxV ([Iv k.epoch, Iv k.log, slv 6 0 k.items.length k.items.length, slv 7 0 k.claims.length k.claims.length]))]) (v := mxV ([Iv k.epoch, Iv k.log, slv 6 0 k.items.length k.items.length, slv 7 0 k.claims.length k.claims.length])) rfl rfl rfl (by kernel_rfl) ?_
  refine Zch (v := mxV ([Iv k.epoch, Iv k.log, slv 6 0 k.items.length k.items.length, slv 7 0 k.claims.length k.claims.length])) (b := mxB 4 ([Iv k.epoch, Iv k.log, slv 6 0 k.items.length k.items.length, slv 7 0 k.claims.length k.claims.length])) (nid := 8) (H' := [rwR Zh k.items, rwR Zj k.claims, rwR Zh r.items, mxB 4 ([Iv k.epoch, Iv k.log, slv 6 0 k.items.length k.items.length, slv 7 0 k.claims.length k.claims.length]), mxB 150 ([Iv r.kind, Iv r.epoch, Iv r.from_] ++ (Zr r.item ++ ([slv 2 0 p q] ++ (Zs r.claim)))), mxB 4 ([Iv 0, Iv 0, .slice none 0 0, .slice none 0 0]), rwB Zh k.items, rwB Zj k.claims, mxB 4 ([Iv k.epoch, Iv k.log, slv 6 0 k.items.length k.items.length, slv 7 0 k.claims.length k.claims.length]), hole, hole]) rfl rfl rfl (by kernel_rfl) (by kernel_rfl) ?_
  refine Zd rfl rfl (pt 8 0) rfl (Zb (Zc (Zk (Zm (Zd rfl rfl (.func (.func 39) #[] #[]) rfl (Zb (Zc (Zk (Zk (Zm (Zf rfl rfl (.func (.func 39) #[] #[]) rfl (Zf rfl rfl (pt 8 0) rfl ?_))))))))))))
  refine Zl (p := pt 4 0) (v := mxV ([Iv r.kind, Iv r.epoch, Iv r.from_] ++ (Zr r.item ++ ([slv 2 0 p q] ++ (Zs r.claim))))) rfl rfl rfl (by kernel_rfl) ?_
  have hmy4 := Zsg (of_decide_eq_true (by assumption : decide (Zce r) = true))
  refine Ztu (e := [some (8, 0), some (6, 0), some (7, 0), some (2, 0)]) (nid := 0) (Zuy (G := G) k r p q hp (by omega) (by omega) (by omega) (by omega) hmy4.1.1 (by omega) hmy4.2) (vals := [pt 8 0, mxV ([Iv r.kind, Iv r.epoch, Iv r.from_] ++ (Zr r.item ++ ([slv 2 0 p q] ++ (Zs r.claim))))]) (v := Iv ((Zad k r).2)) (H' := [rwR Zh k.items, rwR Zj k.claims, rwR Zh r.items, mxB 4 ([Iv k.epoch, Iv k.log, dead, slv 7 0 k.claims.length k.claims.length]), mxB 150 ([Iv r.kind, Iv r.epoch, Iv r.from_] ++ (Zr r.item ++ ([slv 2 0 p q] ++ (Zs r.claim)))), mxB 4 ([Iv 0, Iv 0, .slice none 0 0, .slice none 0 0]), rwB Zh ((Zad k r).1.items), rwB Zj k.claims, mxB 4 ([Iv ((Zad k r).1.epoch), Iv ((Zad k r).1.log), slv 6 0 ((Zad k r).1.items.length) ((Zad k r).1.items.length), slv 7 0 k.claims.length k.claims.length]), hole, hole]) rfl rfl rfl rfl rfl rfl ⟨⟨⟨rfl, rfl⟩, (Zac (by kernel_rfl) (Zae ⟨⟨rfl, rfl⟩, ⟨rfl, rfl⟩, ⟨rfl, rfl⟩, trivial⟩ (Zae (Zam (by kernel_rfl)) (Zae ⟨⟨rfl, rfl, rfl, by first | omega | exact Nat.le_refl _, by first | omega | exact Nat.le_refl _⟩, trivial⟩ (Zam (by kernel_rfl)))))), trivial⟩, ⟨(Znm (B := mxB 4 ([Iv k.epoch, Iv k.log, slv 6 0 k.items.length k.items.length, slv 7 0 k.claims.length k.claims.length])) (by kernel_rfl) rfl rfl (by kernel_rfl)), (Znm rfl rfl rfl rfl), (Za1 rfl), (Zab rfl), trivial⟩, rfl, rfl, rfl, Nat.le_refl _⟩ rfl rfl (by kernel_rfl) ?_
  refine Zd rfl rfl (Iv ((Zad k r).2)) rfl (Zb (Zc (Zk (Zm (Zf rfl rfl (Iv ((Zad k r).2)) rfl ?_)))))
  by_cases h3 : ((Zad k r).2) ≠ 0
  refine Zn (vx := Iv ((Zad k r).2)) (vy := Iv 0) rfl rfl (.bool true) rfl rfl (Zed (by omega)) ?_
  refine Zb (Zc (Z4 rfl (Zk (Zm ?_))))
  refine Zbj (vs := []) (v := mxV ([Iv 0, Iv 0, .slice none 0 0, .slice none 0 0])) rfl rfl rfl (by kernel_rfl) ?_
  refine Zf rfl rfl (Iv ((Zad k r).2)) rfl ?_
  refine Zaa (p := pt 5 0) (v := mxV ([Iv 0, Iv 0, .slice none 0 0, .slice none 0 0])) (b := 5) (blk := mxB 4 ([Iv 0, Iv 0, .slice none 0 0, .slice none 0 0])) (H' := [rwR Zh k.items, rwR Zj k.claims, rwR Zh r.items, mxB 4 ([Iv k.epoch, Iv k.log, dead, slv 7 0 k.claims.length k.claims.length]), mxB 150 ([Iv r.kind, Iv r.epoch, Iv r.from_] ++ (Zr r.item ++ ([slv 2 0 p q] ++ (Zs r.claim)))), mxB 4 ([Iv 0, Iv 0, .slice none 0 0, .slice none 0 0]), rwB Zh ((Zad k r).1.items), rwB Zj k.claims, mxB 4 ([Iv ((Zad k r).1.epoch), Iv ((Zad k r).1.log), slv 6 0 ((Zad k r).1.items.length) ((Zad k r).1.items.length), slv 7 0 k.claims.length k.claims.length]), hole, hole]) rfl rfl rfl (by kernel_rfl) (by kernel_rfl) ?_
  refine Zd rfl rfl (Iv ((Zad k r).2)) rfl (Zb (Zc ?_))
  refine Zfq (Zcz.nilCell (k := 5) (j := 2) (b := 9) true 110 rfl (by decide) rfl (by show 0 < 4; decide) rfl rfl) ?_
  refine Zfq (Zcz.nilCell (k := 5) (j := 3) (b := 10) true 36 rfl (by decide) rfl (by show 0 < 4; decide) rfl rfl) ?_
  refine Zq (Zv (Zo ?_))
  rw [show Z0 k r = (⟨0, 0, [], []⟩, (Zad k r).2) from Ztk (Zbw (by omega)) (of_decide_eq_true (by assumption)) (by omega)]
  exact Zcc [0, 1, 2, 9, 10] (v := .tuple #[mxV ([Iv 0, Iv 0, slv 9 0 0 0, slv 10 0 0 0]), Iv ((Zad k r).2)]) rfl (by kernel_rfl) rfl rfl (by decide) (by simp [Zc6, rwB, rwR, Zh, Zj]) ⟨(Zac (by kernel_rfl) ⟨⟨rfl, rfl⟩, ⟨rfl, rfl⟩, ⟨rfl, rfl, rfl, by first | omega | exact Nat.le_refl _ | exact Nat.zero_le _ | (dsimp only; omega), by first | omega | exact Nat.le_refl _ | exact Nat.zero_le _ | (dsimp only; omega)⟩, ⟨rfl, rfl, rfl, by first | omega | exact Nat.le_refl _ | exact Nat.zero_le _ | (dsimp only; omega), by first | omega | exact Nat.le_refl _ | exact Nat.zero_le _ | (dsimp only; omega)⟩, trivial⟩), rfl, trivial⟩
  refine Zn (vx := Iv ((Zad k r).2)) (vy := Iv 0) rfl rfl (.bool false) rfl rfl (Zd4 (by omega)) ?_
  refine Zb (Zc (Zx rfl (Z8 (Zc (Zk (Zm (Zf rfl rfl (pt 8 0) rfl ?_)))))))
  refine Zbs (p := pt 8 0) (v := pt 8 0) rfl rfl rfl rfl ?_
  refine Ze (b := 8) (o := 0) (n := 0) (o' := 0) rfl rfl rfl rfl rfl ?_
  refine Zl (p := pt 8 0) (v := mxV ([Iv ((Zad k r).1.epoch), Iv ((Zad k r).1.log), slv 6 0 ((Zad k r).1.items.length) ((Zad k r).1.items.length), slv 7 0 k.claims.length k.claims.length])) rfl rfl rfl (by kernel_rfl) ?_
  refine Zaa (p := pt 5 0) (v := mxV ([Iv ((Zad k r).1.epoch), Iv ((Zad k r).1.log), slv 6 0 ((Zad k r).1.items.length) ((Zad k r).1.items.length), slv 7 0 k.claims.length k.claims.length])) (b := 5) (blk := mxB 4 ([Iv ((Zad k r).1.epoch), Iv ((Zad k r).1.log), slv 6 0 ((Zad k r).1.items.length) ((Zad k r).1.items.length), slv 7 0 k.claims.length k.claims.length])) (H' := [rwR Zh k.items, rwR Zj k.claims, rwR Zh r.items, mxB 4 ([Iv k.epoch, Iv k.log, dead, slv 7 0 k.claims.length k.claims.length]), mxB 150 ([Iv r.kind, Iv r.epoch, Iv r.from_] ++ (Zr r.item ++ ([slv 2 0 p q] ++ (Zs r.claim)))), mxB 4 ([Iv ((Zad k r).1.epoch), Iv ((Zad k r).1.log), slv 6 0 ((Zad k r).1.items.length) ((Zad k r).1.items.length), slv 7 0 k.claims.length k.claims.length]), rwB Zh ((Zad k r).1.items), rwB Zj k.claims, mxB 4 ([Iv ((Zad k r).1.epoch), Iv ((Zad k r).1.log), slv 6 0 ((Zad k r).1.items.length) ((Zad k r).1.items.length), slv 7 0 k.claims.length k.claims.length]), hole, hole]) rfl rfl rfl (by kernel_rfl) (by kernel_rfl) ?_
  refine Zd rfl rfl (Iv 0) rfl (Zb (Zc (Zq (Zo ?_))))
  rw [show Z0 k r = (⟨(Zad k r).1.epoch, (Zad k r).1.log, (Zad k r).1.items, k.claims⟩, 0) from Zv9 (Zbw (by omega)) (of_decide_eq_true (by assumption)) (by omega)]
  exact Zcc [0, 1, 2, 6, 7] (v := .tuple #[mxV ([Iv ((Zad k r).1.epoch), Iv ((Zad k r).1.log), slv 6 0 ((Zad k r).1.items.length) ((Zad k r).1.items.length), slv 7 0 k.claims.length k.claims.length]), Iv 0]) rfl (by kernel_rfl) rfl rfl (by decide) (by simp [Zc6, rwB, rwR, Zh, Zj]) ⟨(Zac (by kernel_rfl) ⟨⟨rfl, rfl⟩, ⟨rfl, rfl⟩, ⟨rfl, rfl, rfl, by first | omega | exact Nat.le_refl _ | exact Nat.zero_le _ | (dsimp only; omega), by first | omega | exact Nat.le_refl _ | exact Nat.zero_le _ | (dsimp only; omega)⟩, ⟨rfl, rfl, rfl, by first | omega | exact Nat.le_refl _ | exact Nat.zero_le _ | (dsimp only; omega), by first | omega | exact Nat.le_refl _ | exact Nat.zero_le _ | (dsimp only; omega)⟩, trivial⟩), rfl, trivial⟩
  refine Zd3 (vx := .bool (decide (Zce r))) rfl rfl (.bool true) rfl (Eq.trans Zbx (congrArg (fun b => some (Value.bool !b)) h2)) ?_
  refine Zd rfl rfl (.bool true) rfl (Zb (Zc (Z4 rfl (Zk (Zm ?_)))))
  refine Zbj (vs := []) (v := mxV ([Iv 0, Iv 0, .slice none 0 0, .slice none 0 0])) rfl rfl rfl (by kernel_rfl) ?_
  refine Zaa (p := pt 5 0) (v := mxV ([Iv 0, Iv 0, .slice none 0 0, .slice none 0 0])) (b := 5) (blk := mxB 4 ([Iv 0, Iv 0, .slice none 0 0, .slice none 0 0])) (H' := [rwR Zh k.items, rwR Zj k.claims, rwR Zh r.items, mxB 4 ([Iv k.epoch, Iv k.log, slv 0 0 k.items.length c, slv 1 0 k.claims.length d]), mxB 150 ([Iv r.kind, Iv r.epoch, Iv r.from_] ++ (Zr r.item ++ ([slv 2 0 p q] ++ (Zs r.claim)))), mxB 4 ([Iv 0, Iv 0, .slice none 0 0, .slice none 0 0]), hole, hole, hole, hole, hole]) rfl rfl rfl (by kernel_rfl) (by kernel_rfl) ?_
  refine Zd rfl rfl (Iv 140) rfl (Zb (Zc ?_))
  refine Zfq (Zcz.nilCell (k := 5) (j := 2) (b := 6) true 110 rfl (by decide) rfl (by show 0 < 4; decide) rfl rfl) ?_
  refine Zfq (Zcz.nilCell (k := 5) (j := 3) (b := 7) true 36 rfl (by decide) rfl (by show 0 < 4; decide) rfl rfl) ?_
  refine Zq (Zz (Zv (Zo ?_)))
  rw [show Z0 k r = (⟨0, 0, [], []⟩, 140) from Zqe (Zbw (by omega)) (of_decide_eq_false (by assumption))]
  exact Zcc [0, 1, 2, 6, 7] (v := .tuple #[mxV ([Iv 0, Iv 0, slv 6 0 0 0, slv 7 0 0 0]), Iv 140]) rfl (by kernel_rfl) rfl rfl (by decide) (by simp [Zc6, rwB, rwR, Zh, Zj]) ⟨(Zac (by kernel_rfl) ⟨⟨rfl, rfl⟩, ⟨rfl, rfl⟩, ⟨rfl, rfl, rfl, by first | omega | exact Nat.le_refl _ | exact Nat.zero_le _ | (dsimp only; omega), by first | omega | exact Nat.le_refl _ | exact Nat.zero_le _ | (dsimp only; omega)⟩, ⟨rfl, rfl, rfl, by first | omega | exact Nat.le_refl _ | exact Nat.zero_le _ | (dsimp only; omega), by first | omega | exact Nat.le_refl _ | exact Nat.zero_le _ | (dsimp only; omega)⟩, trivial⟩), rfl, trivial⟩
end Go.Flat
