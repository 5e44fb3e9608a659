/- Walks. -/
import Derived.Test.YtoafdomlefoenaaN3
set_option linter.unusedVariables false
set_option linter.unusedSimpArgs false
set_option maxRecDepth 20000
namespace Go.Flat
open Go.Proofs
variable {G : Glob}
def Zgn (k : Kept) : Kept × Int := (k, if Zbx k then 0 else 140)
theorem Zhv {k : Kept} (h : Zbx k) : Zgn k = (k, 0) := by unfold Zgn; rw [if_pos h]
theorem Zdk {k : Kept} (h : ¬ Zbx k) : Zgn k = (k, 140) := by unfold Zgn; rw [if_neg h]
def Zaf (k : Kept) (r : Rec) : Kept × Int :=
  if r.kind = 1 then (if r.epoch < k.epoch then (k, 140) else Zgn ⟨r.epoch, k.log, k.items, k.claims⟩) else
  if r.kind = 2 then (if r.item.epoch = k.log ∧ Zes k.items k.items.length r.item = 0 then Zgn ⟨k.epoch, k.log, k.items ++ [r.item], k.claims⟩ else (k, 140)) else
  if r.epoch < k.epoch then (k, 140) else if (k.items.length : Int) < r.from_ then (k, 141) else Zgn ⟨r.epoch, r.epoch, k.items.take r.from_.toNat ++ r.items, k.claims⟩
section
variable {k : Kept} {r : Rec}
theorem Zfs (h : r.kind = 1) (h1 : r.epoch < k.epoch) : Zaf k r = (k, 140) := by unfold Zaf; rw [if_pos h, if_pos h1]
theorem Zej (h : r.kind = 1) (h1 : ¬ r.epoch < k.epoch) : Zaf k r = Zgn ⟨r.epoch, k.log, k.items, k.claims⟩ := by unfold Zaf; rw [if_pos h, if_neg h1]
theorem Zft (h : r.kind = 2) (h1 : ¬ (r.item.epoch = k.log ∧ Zes k.items k.items.length r.item = 0)) : Zaf k r = (k, 140) := by unfold Zaf; rw [if_neg (by omega), if_pos h, if_neg h1]
theorem Zek (h : r.kind = 2) (h1 : r.item.epoch = k.log) (h2 : Zes k.items k.items.length r.item = 0) : Zaf k r = Zgn ⟨k.epoch, k.log, k.items ++ [r.item], k.claims⟩ := by unfold Zaf; rw [if_neg (by omega), if_pos h, if_pos ⟨h1, h2⟩]
theorem Zfu (h : r.kind = 3) (h1 : r.epoch < k.epoch) : Zaf k r = (k, 140) := by unfold Zaf; rw [if_neg (by omega), if_neg (by omega), if_pos h1]
theorem Zfv (h : r.kind = 3) (h1 : ¬ r.epoch < k.epoch) (h2 : (k.items.length : Int) < r.from_) : Zaf k r = (k, 141) := by unfold Zaf; rw [if_neg (by omega), if_neg (by omega), if_neg h1, if_pos h2]
theorem Zel (h : r.kind = 3) (h1 : ¬ r.epoch < k.epoch) (h2 : ¬ (k.items.length : Int) < r.from_) : Zaf k r = Zgn ⟨r.epoch, r.epoch, k.items.take r.from_.toNat ++ r.items, k.claims⟩ := by unfold Zaf; rw [if_neg (by omega), if_neg (by omega), if_neg h1, if_neg h2]
end
def Zcw (k : Kept) (r : Rec) : Kept × Int :=
  if Zbx k then (if Zbs r then (if (Zaf k r).2 = 0 then ((Zaf k r).1, 0) else (⟨0, 0, [], []⟩, (Zaf k r).2)) else (⟨0, 0, [], []⟩, 140)) else (⟨0, 0, [], []⟩, 1)
section
variable {k : Kept} {r : Rec}
theorem Zyr (h : ¬ Zbx k) : Zcw k r = (⟨0, 0, [], []⟩, 1) := if_neg h
theorem Zys (h : Zbx k) (h1 : ¬ Zbs r) : Zcw k r = (⟨0, 0, [], []⟩, 140) := by unfold Zcw; rw [if_pos h, if_neg h1]
theorem Zyt (h : Zbx k) (h1 : Zbs r) (h2 : ¬ (Zaf k r).2 = 0) : Zcw k r = (⟨0, 0, [], []⟩, (Zaf k r).2) := by unfold Zcw; rw [if_pos h, if_pos h1, if_neg h2]
theorem Zqo : (Zaf k r).1.claims = k.claims := by
 unfold Zaf Zgn
 split
 ·split <;> rfl
 ·split
  ·split <;> rfl
  ·split
   ·rfl
   ·split <;> rfl
theorem Zw6 (h : Zbx k) (h1 : Zbs r) (h2 : (Zaf k r).2 = 0) : Zcw k r = ((Zaf k r).1, 0) := by unfold Zcw; rw [if_pos h, if_pos h1, if_pos h2]
theorem Zyu (h : Zbx k) (h1 : Zbs r) (h2 : (Zaf k r).2 = 0) : Zcw k r = (⟨(Zaf k r).1.epoch, (Zaf k r).1.log, (Zaf k r).1.items, k.claims⟩, 0) := by rw [Zw6 h h1 h2, ← Zqo (r := r)]
end
abbrev Y5 (k : Kept) : Blk := mxB 4 ([Iv k.epoch, Iv k.log, slv 1 0 k.items.length k.items.length, slv 2 0 k.claims.length k.claims.length])
abbrev Y6 (r : Rec) (p : Nat) (q : Nat) : Blk := mxB 150 ([Iv r.kind, Iv r.epoch, Iv r.from_] ++ (Zt r.item ++ ([slv 3 0 p q] ++ (Zo r.claim))))
abbrev Y7 (k : Kept) (r : Rec) : Blk := mxB 4 ([Iv r.epoch, Iv k.log, slv 1 0 k.items.length k.items.length, slv 2 0 k.claims.length k.claims.length])
theorem Zw7 (k : Kept) (r : Rec) (p q : Nat) (hp : r.items.length = p) (hq : p ≤ q) (hpb : p ≤ 100000) (hb : k.items.length ≤ 100000) (hb2 : k.claims.length ≤ 1048576) (hk1 : 1 ≤ r.kind) (hk3 : r.kind ≤ 3) (hf : r.kind = 3 → 0 ≤ r.from_ ∧ r.from_ ≤ 2000) : Zas Try.prog G 39 [pt 0 0, mxV ([Iv r.kind, Iv r.epoch, Iv r.from_] ++ (Zt r.item ++ ([slv 3 0 p q] ++ (Zo r.claim))))] [mxB 4 ([Iv k.epoch, Iv k.log, slv 1 0 k.items.length k.items.length, slv 2 0 k.claims.length k.claims.length]), rwB Zk k.items, rwR Zh k.claims, rwR Zk r.items] (Iv (Zaf k r).2) [mxB 4 ([Iv ((Zaf k r).1.epoch), Iv ((Zaf k r).1.log), slv 1 0 ((Zaf k r).1.items.length) ((Zaf k r).1.items.length), slv 2 0 k.claims.length k.claims.length]), rwB Zk (Zaf k r).1.items, rwR Zh k.claims, rwR Zk r.items] := by
  refine Zcv (fn := Try.f39) (nt := 134) rfl rfl rfl rfl ?_
  refine Zbq 2 (H' := [Y5 k, rwB Zk k.items, rwR Zh k.claims, rwR Zk r.items, hole, hole]) rfl ?_
  refine Zj (Zl (Zbw (v := mxV ([Iv r.kind, Iv r.epoch, Iv r.from_] ++ (Zt r.item ++ ([slv 3 0 p q] ++ (Zo r.claim))))) (b := mxB 150 ([Iv r.kind, Iv r.epoch, Iv r.from_] ++ (Zt r.item ++ ([slv 3 0 p q] ++ (Zo r.claim))))) (nid := 4) (H' := [Y5 k, rwB Zk k.items, rwR Zh k.claims, rwR Zk r.items, Y6 r p q, hole]) (Zc (Iv 0) (Ze (Zf (Zj (Zj (Zl (Zd (b := 4) (o := 0) (n := 0) (o' := 0) (Zi (p := pt 4 0) (v := Iv r.kind) (Ze (Zf (Zbm (Zj (Zl ?_)))))))))))))))
  by_cases h1 : r.kind = 1
  refine Zn (vx := Iv r.kind) (vy := Iv 1) rfl rfl (.bool true) rfl rfl (Zav (by omega)) ?_
  refine Zc (.bool true) (Ze (Zf (Z8 rfl (Zj (Zj ?_)))))
  refine Zdx (by kernel_rfl) ?_
  refine Zd (b := 4) (o := 0) (n := 1) (o' := 1) (Zi (p := pt 4 1) (v := Iv r.epoch) (Zb (pt 0 0) (Zau (p := pt 0 0) (v := pt 0 0) (Zd (b := 0) (o := 0) (n := 0) (o' := 0) (Zd (b := 0) (o := 0) (n := 0) (o' := 0) (Zi (p := pt 0 0) (v := Iv k.epoch) ?_))))))
  by_cases h2 : r.epoch < k.epoch
  refine Zn (vx := Iv r.epoch) (vy := Iv k.epoch) rfl rfl (.bool true) rfl rfl (Zfg (by omega)) ?_
  refine Zbh (Zar [[], [0], [], [2], [2, 3], [2, 3, 4], [2, 3, 4, 5], [0, 1, 2, 3, 4, 5, 6]] (by kernel_rfl) (by kernel_rfl)) ?_
  refine Zf (Z8 rfl (Zj (Zl (Zc (Iv 140) (Ze (Zf (Zq (Z4 (Zag (Z4 (Zp ?_)))))))))))
  rw [show Zaf k r = ((⟨k.epoch, k.log, k.items, k.claims⟩ : Kept), 140) from by first | exact Zfs (by omega) (by omega) | exact Zft (by omega) (by omega) | exact Zfu (by omega) (by omega) | exact Zfv (by omega) (by omega) (by omega) | exact (Zej (by omega) (by omega)).trans (Zdk (Za1 (by omega))) | exact (Zek (by omega) (by omega) (by omega)).trans (Zdk (Za1 (by omega))) | exact (Zel (by omega) (by omega) (by omega)).trans (Zdk (Za1 (by omega)))]
  exact Zm (v := Iv 140) rfl rfl rfl (by kernel_rfl) rfl
  refine Zn (vx := Iv r.epoch) (vy := Iv k.epoch) rfl rfl (.bool false) rfl rfl (Zff (by omega)) ?_
  refine Zbh (Zar [[], [0], [], [2], [2, 3], [2, 3, 4], [2, 3, 4, 5], [0, 1, 2, 3, 4, 5, 6]] (by kernel_rfl) (by kernel_rfl)) ?_
  refine Zf (Zw rfl (Z7 (Zf (Zl (Zb (pt 0 0) (Zd (b := 4) (o := 0) (n := 1) (o' := 1) (Zi (p := pt 4 1) (v := Iv r.epoch) (Zau (p := pt 0 0) (v := pt 0 0) (Zd (b := 0) (o := 0) (n := 0) (o' := 0) (Zd (b := 0) (o := 0) (n := 0) (o' := 0) (Zy (p := pt 0 0) (v := Iv r.epoch) (b := 0) (blk := mxB 4 ([Iv r.epoch, Iv k.log, slv 1 0 k.items.length k.items.length, slv 2 0 k.claims.length k.claims.length])) (H' := [Y7 k r, rwB Zk k.items, rwR Zh k.claims, rwR Zk r.items, Y6 r p q, hole]) (Ze (Z1 (Zf (Zj (Zj (Zl (Zb (pt 0 0) (Zau (p := pt 0 0) (v := pt 0 0) (Zd (b := 0) (o := 0) (n := 0) (o' := 0) ?_))))))))))))))))))))
  refine Zi (p := pt 0 0) (v := mxV ([Iv r.epoch, Iv k.log, slv 1 0 k.items.length k.items.length, slv 2 0 k.claims.length k.claims.length])) ?_
  refine Z2 (e := [some (1, 0), some (2, 0)]) (nid := 0) (Zd3 (G := G) (⟨r.epoch, k.log, k.items, k.claims⟩ : Kept) k.items.length k.items.length k.claims.length k.claims.length rfl rfl (by omega) (by omega) (by omega) (by omega)) (vals := [mxV ([Iv r.epoch, Iv k.log, slv 1 0 k.items.length k.items.length, slv 2 0 k.claims.length k.claims.length])]) (v := Iv (Zc7 (⟨r.epoch, k.log, k.items, k.claims⟩ : Kept))) (H' := [Y7 k r, rwB Zk k.items, rwR Zh k.claims, rwR Zk r.items, Y6 r p q, hole]) rfl rfl rfl rfl rfl rfl rfl ⟨⟨(Z9 (by kernel_rfl) ⟨⟨rfl, rfl⟩, ⟨rfl, rfl⟩, ⟨rfl, rfl, rfl, by first | omega | exact Nat.le_refl _, by first | omega | exact Nat.le_refl _⟩, ⟨rfl, rfl, rfl, by first | omega | exact Nat.le_refl _, by first | omega | exact Nat.le_refl _⟩, trivial⟩), trivial⟩, ⟨(Zaa rfl), (Zae rfl), trivial⟩, rfl, rfl, rfl⟩ rfl (by kernel_rfl) ?_
  by_cases h3 : (Zc7 (⟨r.epoch, k.log, k.items, k.claims⟩ : Kept)) ≠ 0
  refine Zn (vx := Iv (Zc7 (⟨r.epoch, k.log, k.items, k.claims⟩ : Kept))) (vy := Iv 0) rfl rfl (.bool true) rfl rfl (Zc3 (by omega)) ?_
  refine Ze (Zf (Z8 rfl (Zj (Zl (Zc (Iv 140) (Ze (Zf (Zq (Z4 (Zp ?_))))))))))
  rw [show Zaf k r = ((⟨r.epoch, k.log, k.items, k.claims⟩ : Kept), 140) from by first | exact Zfs (by omega) (by omega) | exact Zft (by omega) (by omega) | exact Zfu (by omega) (by omega) | exact Zfv (by omega) (by omega) (by omega) | exact (Zej (by omega) (by omega)).trans (Zdk (Za1 (by omega))) | exact (Zek (by omega) (by omega) (by omega)).trans (Zdk (Za1 (by omega))) | exact (Zel (by omega) (by omega) (by omega)).trans (Zdk (Za1 (by omega)))]
  exact Zm (v := Iv 140) rfl rfl rfl (by kernel_rfl) rfl
  refine Zn (vx := Iv (Zc7 (⟨r.epoch, k.log, k.items, k.claims⟩ : Kept))) (vy := Iv 0) rfl rfl (.bool false) rfl rfl (Zbk (by omega)) ?_
  refine Ze (Zf (Zw rfl (Z7 (Zf (Zj (Zl (Zc (Iv 0) (Ze (Zf (Zq (Zp ?_)))))))))))
  rw [show Zaf k r = ((⟨r.epoch, k.log, k.items, k.claims⟩ : Kept), 0) from by first | exact (Zej (by omega) (by omega)).trans (Zhv (Zb1 (by omega))) | exact (Zek (by omega) (by omega) (by omega)).trans (Zhv (Zb1 (by omega))) | exact (Zel (by omega) (by omega) (by omega)).trans (Zhv (Zb1 (by omega)))]
  exact Zm (v := Iv 0) rfl rfl rfl (by kernel_rfl) rfl
  refine Zn (vx := Iv r.kind) (vy := Iv 1) rfl rfl (.bool false) rfl rfl (Zbb (by omega)) ?_
  refine Zc (.bool false) (Ze (Zf (Zw rfl (Zj (Zl ?_)))))
  by_cases h4 : r.kind = 2
  refine Zn (vx := Iv r.kind) (vy := Iv 2) rfl rfl (.bool true) rfl rfl (Zav (by omega)) ?_
  refine Zc (.bool true) (Ze (Zf (Z8 rfl (Zj (Zj ?_)))))
  refine Zeu (by kernel_rfl) ?_
  refine Zd (b := 4) (o := 0) (n := 3) (o' := 3) (Zd (b := 4) (o := 3) (n := 0) (o' := 3) (Zi (p := pt 4 3) (v := Iv r.item.epoch) (Zb (pt 0 0) (Zau (p := pt 0 0) (v := pt 0 0) (Zd (b := 0) (o := 0) (n := 0) (o' := 0) (Zd (b := 0) (o := 0) (n := 1) (o' := 1) (Zi (p := pt 0 1) (v := Iv k.log) ?_)))))))
  by_cases h5 : r.item.epoch ≠ k.log
  refine Zn (vx := Iv r.item.epoch) (vy := Iv k.log) rfl rfl (.bool true) rfl rfl (Zc3 (by omega)) ?_
  refine Zb (.bool true) (Za (Za (Za (Za (Za (Za (Za (Za (Za (Zg (.bool true) ?_))))))))))
  refine Zco (Za8 [[], [0], [0, 1], [], [3], [3, 4], [3, 4, 5], [3, 4, 5, 6], [0, 1, 2, 3, 4, 5, 6, 7], [0, 1, 2, 3, 4, 5, 6, 7, 8], [0, 1, 2, 3, 4, 5, 6, 7, 8, 9], [0, 1, 2, 3, 4, 5, 6, 7, 8, 9, 10], [0, 1, 2, 3, 4, 5, 6, 7, 8, 9, 10, 11], [0, 1, 2, 3, 4, 5, 6, 7, 8, 9, 10, 11, 12], [0, 1, 2, 3, 4, 5, 6, 7, 8, 9, 10, 11, 12, 13], [0, 1, 2, 3, 4, 5, 6, 7, 8, 9], [0, 1, 2, 3, 4, 5, 6, 7, 8, 9, 15], [0, 1, 2, 3, 4, 5, 6, 7, 8, 9, 10, 11, 12, 13, 14, 15, 16], [0, 1, 2, 3, 4, 5, 6, 7, 8, 9, 10, 11, 12, 13, 14, 15, 16, 17], [0, 1, 2, 3, 4, 5, 6, 7, 8, 9, 10, 11, 12, 13, 14, 15, 16, 17, 18]] (by kernel_rfl) (by kernel_rfl)) ?_
  refine Zf (Z8 rfl (Zj (Zl (Zc (Iv 140) (Ze (Zf (Zq (Z4 (Zag (Z4 (Zp ?_)))))))))))
  rw [show Zaf k r = ((⟨k.epoch, k.log, k.items, k.claims⟩ : Kept), 140) from by first | exact Zfs (by omega) (by omega) | exact Zft (by omega) (by omega) | exact Zfu (by omega) (by omega) | exact Zfv (by omega) (by omega) (by omega) | exact (Zej (by omega) (by omega)).trans (Zdk (Za1 (by omega))) | exact (Zek (by omega) (by omega) (by omega)).trans (Zdk (Za1 (by omega))) | exact (Zel (by omega) (by omega) (by omega)).trans (Zdk (Za1 (by omega)))]
  exact Zm (v := Iv 140) rfl rfl rfl (by kernel_rfl) rfl
  refine Zn (vx := Iv r.item.epoch) (vy := Iv k.log) rfl rfl (.bool false) rfl rfl (Zbk (by omega)) ?_
  refine Zb (.bool false) (Zb (pt 0 0) (Zau (p := pt 0 0) (v := pt 0 0) (Zd (b := 0) (o := 0) (n := 0) (o' := 0) (Zd (b := 0) (o := 0) (n := 2) (o' := 2) (Zi (p := pt 0 2) (v := slv 1 0 k.items.length k.items.length) (Zd (b := 4) (o := 0) (n := 3) (o' := 3) (Zi (p := pt 4 3) (v := Zan r.item) ?_)))))))
  refine Z2 (e := [some (1, 0)]) (nid := 0) (Zyh (G := G) k.items k.items.length k.items.length rfl (by omega) (by omega) r.item) (vals := [slv 1 0 k.items.length k.items.length, Zan r.item]) (v := Iv (Zes k.items k.items.length r.item)) (H' := [Y5 k, rwB Zk k.items, rwR Zh k.claims, rwR Zk r.items, Y6 r p q, hole]) rfl rfl rfl rfl rfl rfl rfl ⟨⟨⟨rfl, rfl, rfl, by first | omega | exact Nat.le_refl _, by first | omega | exact Nat.le_refl _⟩, rfl, trivial⟩, ⟨(Zaa rfl), trivial⟩, rfl, rfl, rfl⟩ rfl (by kernel_rfl) ?_
  by_cases h6 : (Zes k.items k.items.length r.item) ≠ 0
  refine Zn (vx := Iv (Zes k.items k.items.length r.item)) (vy := Iv 0) rfl rfl (.bool true) rfl rfl (Zc3 (by omega)) ?_
  refine Zg (.bool true) ?_
  refine Zco (Za8 [[], [0], [0, 1], [], [3], [3, 4], [3, 4, 5], [3, 4, 5, 6], [0, 1, 2, 3, 4, 5, 6, 7], [0, 1, 2, 3, 4, 5, 6, 7, 8], [0, 1, 2, 3, 4, 5, 6, 7, 8, 9], [0, 1, 2, 3, 4, 5, 6, 7, 8, 9, 10], [0, 1, 2, 3, 4, 5, 6, 7, 8, 9, 10, 11], [0, 1, 2, 3, 4, 5, 6, 7, 8, 9, 10, 11, 12], [0, 1, 2, 3, 4, 5, 6, 7, 8, 9, 10, 11, 12, 13], [0, 1, 2, 3, 4, 5, 6, 7, 8, 9], [0, 1, 2, 3, 4, 5, 6, 7, 8, 9, 15], [0, 1, 2, 3, 4, 5, 6, 7, 8, 9, 10, 11, 12, 13, 14, 15, 16], [0, 1, 2, 3, 4, 5, 6, 7, 8, 9, 10, 11, 12, 13, 14, 15, 16, 17], [0, 1, 2, 3, 4, 5, 6, 7, 8, 9, 10, 11, 12, 13, 14, 15, 16, 17, 18]] (by kernel_rfl) (by kernel_rfl)) ?_
  refine Zf (Z8 rfl (Zj (Zl (Zc (Iv 140) (Ze (Zf (Zq (Z4 (Zag (Z4 (Zp ?_)))))))))))
  rw [show Zaf k r = ((⟨k.epoch, k.log, k.items, k.claims⟩ : Kept), 140) from by first | exact Zfs (by omega) (by omega) | exact Zft (by omega) (by omega) | exact Zfu (by omega) (by omega) | exact Zfv (by omega) (by omega) (by omega) | exact (Zej (by omega) (by omega)).trans (Zdk (Za1 (by omega))) | exact (Zek (by omega) (by omega) (by omega)).trans (Zdk (Za1 (by omega))) | exact (Zel (by omega) (by omega) (by omega)).trans (Zdk (Za1 (by omega)))]
  exact Zm (v := Iv 140) rfl rfl rfl (by kernel_rfl) rfl
  refine Zn (vx := Iv (Zes k.items k.items.length r.item)) (vy := Iv 0) rfl rfl (.bool false) rfl rfl (Zbk (by omega)) ?_
  refine Zg (.bool false) ?_
  refine Zco (Za8 [[], [0], [0, 1], [], [3], [3, 4], [3, 4, 5], [3, 4, 5, 6], [0, 1, 2, 3, 4, 5, 6, 7], [0, 1, 2, 3, 4, 5, 6, 7, 8], [0, 1, 2, 3, 4, 5, 6, 7, 8, 9], [0, 1, 2, 3, 4, 5, 6, 7, 8, 9, 10], [0, 1, 2, 3, 4, 5, 6, 7, 8, 9, 10, 11], [0, 1, 2, 3, 4, 5, 6, 7, 8, 9, 10, 11, 12], [0, 1, 2, 3, 4, 5, 6, 7, 8, 9, 10, 11, 12, 13], [0, 1, 2, 3, 4, 5, 6, 7, 8, 9], [0, 1, 2, 3, 4, 5, 6, 7, 8, 9, 15], [0, 1, 2, 3, 4, 5, 6, 7, 8, 9, 10, 11, 12, 13, 14, 15, 16], [0, 1, 2, 3, 4, 5, 6, 7, 8, 9, 10, 11, 12, 13, 14, 15, 16, 17], [0, 1, 2, 3, 4, 5, 6, 7, 8, 9, 10, 11, 12, 13, 14, 15, 16, 17, 18]] (by kernel_rfl) (by kernel_rfl)) ?_
  refine Zf (Zw rfl (Z7 (Zf ?_)))
  refine Zeu (by kernel_rfl) ?_
  refine Zb (pt 0 0) (Zb (pt 0 0) (Zau (p := pt 0 0) (v := pt 0 0) (Zd (b := 0) (o := 0) (n := 0) (o' := 0) (Zd (b := 0) (o := 0) (n := 2) (o' := 2) (Zi (p := pt 0 2) (v := slv 1 0 k.items.length k.items.length) (Zd (b := 4) (o := 0) (n := 3) (o' := 3) (Zi (p := pt 4 3) (v := Zan r.item) ?_)))))))
  refine Zp5 (vs := [(0, Zan r.item)]) (v := slv 5 0 1 1) (blk := rwB Zk [r.item]) (nid := 5) (H' := [Y5 k, rwB Zk k.items, rwR Zh k.claims, rwR Zk r.items, Y6 r p q, rwB Zk [r.item]]) rfl rfl rfl (by kernel_rfl) (by kernel_rfl) ?_
  have hl3 : (k.items ++ [r.item]).length = k.items.length + 1 := by have := (rfl : _ = 1); first | (rw [List.length_append]; omega) | (rw [List.length_append, List.length_take]; omega) | (simp; omega) | simp
  refine Zh5 (p := slv 1 0 k.items.length k.items.length) (q := slv 5 0 1 1) (v := slv 1 0 ((k.items ++ [r.item]).length) ((k.items ++ [r.item]).length)) (b := 1) (blk := rwB Zk (k.items ++ [r.item])) (H' := [mxB 4 ([Iv k.epoch, Iv k.log, dead, slv 2 0 k.claims.length k.claims.length]), rwB Zk (k.items ++ [r.item]), rwR Zh k.claims, rwR Zk r.items, Y6 r p q, rwB Zk [r.item]]) rfl rfl rfl (.inl ⟨_, rfl⟩) rfl rfl (Zk3 Zk (by_ := 216) (k := 1) (n' := ((k.items ++ [r.item]).length)) (ms := [r.item]) (fun _ => rfl) rfl rfl (by kernel_rfl) rfl rfl (by omega) (by omega) (by decide) (by omega)) rfl (by kernel_rfl) ?_
  refine Zau (p := pt 0 0) (v := pt 0 0) (Zd (b := 0) (o := 0) (n := 0) (o' := 0) (Zd (b := 0) (o := 0) (n := 2) (o' := 2) (Zy (p := pt 0 2) (v := slv 1 0 ((k.items ++ [r.item]).length) ((k.items ++ [r.item]).length)) (b := 0) (blk := mxB 4 ([Iv k.epoch, Iv k.log, slv 1 0 ((k.items ++ [r.item]).length) ((k.items ++ [r.item]).length), slv 2 0 k.claims.length k.claims.length])) (H' := [mxB 4 ([Iv k.epoch, Iv k.log, slv 1 0 ((k.items ++ [r.item]).length) ((k.items ++ [r.item]).length), slv 2 0 k.claims.length k.claims.length]), rwB Zk (k.items ++ [r.item]), rwR Zh k.claims, rwR Zk r.items, Y6 r p q, rwB Zk [r.item]]) ?_)))
  refine Zco (Za8 [[], [], [1], [1, 2], [1, 2, 3], [1, 2, 3, 4], [], [6], [6, 7], [1, 2, 3, 4, 5, 6, 7, 8], [0, 1, 2, 3, 4, 5, 6, 7, 8, 9], [0, 1, 2, 3, 4, 5, 6, 7, 8, 9, 10], [0, 1, 2, 3, 4, 5, 6, 7, 8, 9, 10, 11], [0, 1, 2, 3, 4, 5, 6, 7, 8, 9, 10, 11, 12]] (by kernel_rfl) (by kernel_rfl)) ?_
  refine Z1 (Zf (Zj (Zj (Zl (Zb (pt 0 0) (Zau (p := pt 0 0) (v := pt 0 0) (Zd (b := 0) (o := 0) (n := 0) (o' := 0) (Zi (p := pt 0 0) (v := mxV ([Iv k.epoch, Iv k.log, slv 1 0 ((k.items ++ [r.item]).length) ((k.items ++ [r.item]).length), slv 2 0 k.claims.length k.claims.length])) ?_))))))))
  refine Z2 (e := [some (1, 0), some (2, 0)]) (nid := 0) (Zd3 (G := G) (⟨k.epoch, k.log, (k.items ++ [r.item]), k.claims⟩ : Kept) ((k.items ++ [r.item]).length) ((k.items ++ [r.item]).length) k.claims.length k.claims.length rfl rfl (by omega) (by omega) (by omega) (by omega)) (vals := [mxV ([Iv k.epoch, Iv k.log, slv 1 0 ((k.items ++ [r.item]).length) ((k.items ++ [r.item]).length), slv 2 0 k.claims.length k.claims.length])]) (v := Iv (Zc7 (⟨k.epoch, k.log, (k.items ++ [r.item]), k.claims⟩ : Kept))) (H' := [mxB 4 ([Iv k.epoch, Iv k.log, slv 1 0 ((k.items ++ [r.item]).length) ((k.items ++ [r.item]).length), slv 2 0 k.claims.length k.claims.length]), rwB Zk (k.items ++ [r.item]), rwR Zh k.claims, rwR Zk r.items, Y6 r p q, rwB Zk [r.item]]) rfl rfl rfl rfl rfl rfl rfl ⟨⟨(Z9 (by kernel_rfl) ⟨⟨rfl, rfl⟩, ⟨rfl, rfl⟩, ⟨rfl, rfl, rfl, by first | omega | exact Nat.le_refl _, by first | omega | exact Nat.le_refl _⟩, ⟨rfl, rfl, rfl, by first | omega | exact Nat.le_refl _, by first | omega | exact Nat.le_refl _⟩, trivial⟩), trivial⟩, ⟨(Zaa rfl), (Zae rfl), trivial⟩, rfl, rfl, rfl⟩ rfl (by kernel_rfl) ?_
  by_cases h7 : (Zc7 (⟨k.epoch, k.log, (k.items ++ [r.item]), k.claims⟩ : Kept)) ≠ 0
  refine Zn (vx := Iv (Zc7 (⟨k.epoch, k.log, (k.items ++ [r.item]), k.claims⟩ : Kept))) (vy := Iv 0) rfl rfl (.bool true) rfl rfl (Zc3 (by omega)) ?_
  refine Ze (Zf (Z8 rfl (Zj (Zl (Zc (Iv 140) (Ze (Zf (Zq (Z4 (Zp ?_))))))))))
  rw [show Zaf k r = ((⟨k.epoch, k.log, (k.items ++ [r.item]), k.claims⟩ : Kept), 140) from by first | exact Zfs (by omega) (by omega) | exact Zft (by omega) (by omega) | exact Zfu (by omega) (by omega) | exact Zfv (by omega) (by omega) (by omega) | exact (Zej (by omega) (by omega)).trans (Zdk (Za1 (by omega))) | exact (Zek (by omega) (by omega) (by omega)).trans (Zdk (Za1 (by omega))) | exact (Zel (by omega) (by omega) (by omega)).trans (Zdk (Za1 (by omega)))]
  exact Zm (v := Iv 140) rfl rfl rfl (by kernel_rfl) rfl
  refine Zn (vx := Iv (Zc7 (⟨k.epoch, k.log, (k.items ++ [r.item]), k.claims⟩ : Kept))) (vy := Iv 0) rfl rfl (.bool false) rfl rfl (Zbk (by omega)) ?_
  refine Ze (Zf (Zw rfl (Z7 (Zf (Zj (Zl (Zc (Iv 0) (Ze (Zf (Zq (Zp ?_)))))))))))
  rw [show Zaf k r = ((⟨k.epoch, k.log, (k.items ++ [r.item]), k.claims⟩ : Kept), 0) from by first | exact (Zej (by omega) (by omega)).trans (Zhv (Zb1 (by omega))) | exact (Zek (by omega) (by omega) (by omega)).trans (Zhv (Zb1 (by omega))) | exact (Zel (by omega) (by omega) (by omega)).trans (Zhv (Zb1 (by omega)))]
  exact Zm (v := Iv 0) rfl rfl rfl (by kernel_rfl) rfl
  refine Zn (vx := Iv r.kind) (vy := Iv 2) rfl rfl (.bool false) rfl rfl (Zbb (by omega)) ?_
  refine Zc (.bool false) (Ze (Zf (Zw rfl (Zj (Zl ?_)))))
  refine Zn (vx := Iv r.kind) (vy := Iv 3) rfl rfl (.bool true) rfl rfl (Zav (by omega)) ?_
  refine Zc (.bool true) (Ze (Zf (Z8 rfl (Zj (Zbm (Zj ?_))))))
  obtain ⟨hfr0, hfr1⟩ := hf (by omega)
  refine Zdx (by kernel_rfl) ?_
  refine Zd (b := 4) (o := 0) (n := 1) (o' := 1) (Zi (p := pt 4 1) (v := Iv r.epoch) (Zb (pt 0 0) (Zau (p := pt 0 0) (v := pt 0 0) (Zd (b := 0) (o := 0) (n := 0) (o' := 0) (Zd (b := 0) (o := 0) (n := 0) (o' := 0) (Zi (p := pt 0 0) (v := Iv k.epoch) ?_))))))
  by_cases h8 : r.epoch < k.epoch
  refine Zn (vx := Iv r.epoch) (vy := Iv k.epoch) rfl rfl (.bool true) rfl rfl (Zfg (by omega)) ?_
  refine Zc (.bool true) ?_
  refine Zbh (Zar [[], [0], [], [2], [2, 3], [2, 3, 4], [2, 3, 4, 5], [0, 1, 2, 3, 4, 5, 6], [0, 1, 2, 3, 4, 5, 6, 7]] (by kernel_rfl) (by kernel_rfl)) ?_
  refine Zf (Z8 rfl (Zj (Zl (Zc (Iv 140) (Ze (Zf (Zq (Zag (Z4 (Zag (Z4 (Zp ?_))))))))))))
  rw [show Zaf k r = ((⟨k.epoch, k.log, k.items, k.claims⟩ : Kept), 140) from by first | exact Zfs (by omega) (by omega) | exact Zft (by omega) (by omega) | exact Zfu (by omega) (by omega) | exact Zfv (by omega) (by omega) (by omega) | exact (Zej (by omega) (by omega)).trans (Zdk (Za1 (by omega))) | exact (Zek (by omega) (by omega) (by omega)).trans (Zdk (Za1 (by omega))) | exact (Zel (by omega) (by omega) (by omega)).trans (Zdk (Za1 (by omega)))]
  exact Zm (v := Iv 140) rfl rfl rfl (by kernel_rfl) rfl
  refine Zn (vx := Iv r.epoch) (vy := Iv k.epoch) rfl rfl (.bool false) rfl rfl (Zff (by omega)) ?_
  refine Zc (.bool false) ?_
  refine Zbh (Zar [[], [0], [], [2], [2, 3], [2, 3, 4], [2, 3, 4, 5], [0, 1, 2, 3, 4, 5, 6], [0, 1, 2, 3, 4, 5, 6, 7]] (by kernel_rfl) (by kernel_rfl)) ?_
  refine Zf (Zw rfl (Zj ?_))
  refine Zdx (by kernel_rfl) ?_
  refine Zd (b := 4) (o := 0) (n := 2) (o' := 2) (Zi (p := pt 4 2) (v := Iv r.from_) (Zb (pt 0 0) (Zau (p := pt 0 0) (v := pt 0 0) (Zd (b := 0) (o := 0) (n := 0) (o' := 0) (Zd (b := 0) (o := 0) (n := 2) (o' := 2) (Zi (p := pt 0 2) (v := slv 1 0 k.items.length k.items.length) (Zba (p := slv 1 0 k.items.length k.items.length) (v := Iv (k.items.length : Nat)) ?_)))))))
  by_cases h9 : (k.items.length : Nat) < r.from_
  refine Zn (vx := Iv r.from_) (vy := Iv (k.items.length : Nat)) rfl rfl (.bool true) rfl rfl (Zhz (by omega)) ?_
  refine Zc (.bool true) ?_
  refine Zbh (Zar [[], [0], [], [2], [2, 3], [2, 3, 4], [2, 3, 4, 5], [2, 3, 4, 5, 6], [0, 1, 2, 3, 4, 5, 6, 7], [0, 1, 2, 3, 4, 5, 6, 7, 8]] (by kernel_rfl) (by kernel_rfl)) ?_
  refine Zf (Z8 rfl (Zj (Zl (Zc (Iv 141) (Ze (Zf (Zq (Zag (Z4 (Zag (Z4 (Zp ?_))))))))))))
  rw [show Zaf k r = ((⟨k.epoch, k.log, k.items, k.claims⟩ : Kept), 141) from by first | exact Zfs (by omega) (by omega) | exact Zft (by omega) (by omega) | exact Zfu (by omega) (by omega) | exact Zfv (by omega) (by omega) (by omega) | exact (Zej (by omega) (by omega)).trans (Zdk (Za1 (by omega))) | exact (Zek (by omega) (by omega) (by omega)).trans (Zdk (Za1 (by omega))) | exact (Zel (by omega) (by omega) (by omega)).trans (Zdk (Za1 (by omega)))]
  exact Zm (v := Iv 141) rfl rfl rfl (by kernel_rfl) rfl
  refine Zn (vx := Iv r.from_) (vy := Iv (k.items.length : Nat)) rfl rfl (.bool false) rfl rfl (Zhy (by omega)) ?_
  refine Zc (.bool false) ?_
  refine Zbh (Zar [[], [0], [], [2], [2, 3], [2, 3, 4], [2, 3, 4, 5], [2, 3, 4, 5, 6], [0, 1, 2, 3, 4, 5, 6, 7], [0, 1, 2, 3, 4, 5, 6, 7, 8]] (by kernel_rfl) (by kernel_rfl)) ?_
  refine Zf (Zw rfl (Z7 (Z1 (Zf (Zj ?_)))))
  refine Zdx (by kernel_rfl) ?_
  refine Zb (pt 0 0) (Zb (pt 0 0) (Zd (b := 4) (o := 0) (n := 1) (o' := 1) (Zi (p := pt 4 1) (v := Iv r.epoch) (Zd (b := 4) (o := 0) (n := 1) (o' := 1) (Zi (p := pt 4 1) (v := Iv r.epoch) (Zau (p := pt 0 0) (v := pt 0 0) (Zd (b := 0) (o := 0) (n := 0) (o' := 0) (Zd (b := 0) (o := 0) (n := 0) (o' := 0) (Zy (p := pt 0 0) (v := Iv r.epoch) (b := 0) (blk := mxB 4 ([Iv r.epoch, Iv k.log, slv 1 0 k.items.length k.items.length, slv 2 0 k.claims.length k.claims.length])) (H' := [Y7 k r, rwB Zk k.items, rwR Zh k.claims, rwR Zk r.items, Y6 r p q, hole]) (Zau (p := pt 0 0) (v := pt 0 0) (Zd (b := 0) (o := 0) (n := 0) (o' := 0) ?_)))))))))))
  refine Zd (b := 0) (o := 0) (n := 1) (o' := 1) (Zy (p := pt 0 1) (v := Iv r.epoch) (b := 0) (blk := mxB 4 ([Iv r.epoch, Iv r.epoch, slv 1 0 k.items.length k.items.length, slv 2 0 k.claims.length k.claims.length])) (H' := [mxB 4 ([Iv r.epoch, Iv r.epoch, slv 1 0 k.items.length k.items.length, slv 2 0 k.claims.length k.claims.length]), rwB Zk k.items, rwR Zh k.claims, rwR Zk r.items, Y6 r p q, hole]) ?_)
  refine Zbh (Zar [[], [], [], [2], [], [4], [0, 2, 3], [0, 2, 3, 6], [0, 2, 3, 6, 7], [0, 2, 3, 6, 7, 8], [0, 1, 2, 3, 4, 5, 6, 7, 8, 9], [0, 1, 2, 3, 4, 5, 6, 7, 8, 9, 10], [0, 1, 2, 3, 4, 5, 6, 7, 8, 9, 10, 11], [0, 1, 2, 3, 4, 5, 6, 7, 8, 9, 10, 11, 12]] (by kernel_rfl) (by kernel_rfl)) ?_
  refine Zf ?_
  refine Zeu (by kernel_rfl) ?_
  refine Zb (pt 0 0) (Zb (pt 0 0) (Zau (p := pt 0 0) (v := pt 0 0) (Zd (b := 0) (o := 0) (n := 0) (o' := 0) (Zd (b := 0) (o := 0) (n := 2) (o' := 2) (Zi (p := pt 0 2) (v := slv 1 0 k.items.length k.items.length) (Zd (b := 4) (o := 0) (n := 2) (o' := 2) (Zi (p := pt 4 2) (v := Iv r.from_) ?_)))))))
  refine Zd8 (p := slv 1 0 k.items.length k.items.length) (vl := none) (vh := some (Iv r.from_)) (v := slv 1 0 r.from_.toNat k.items.length) rfl rfl rfl rfl rfl (Zl6 (h := r.from_.toNat) rfl rfl (by omega) (by omega) rfl) ?_
  refine Zd (b := 4) (o := 0) (n := 113) (o' := 113) (Zi (p := pt 4 113) (v := slv 3 0 p q) ?_)
  have hl4 : (k.items.take r.from_.toNat ++ r.items).length = r.from_.toNat + p := by have := hp; first | (rw [List.length_append]; omega) | (rw [List.length_append, List.length_take]; omega) | (simp; omega) | simp
  refine Zh5 (p := slv 1 0 r.from_.toNat k.items.length) (q := slv 3 0 p q) (v := slv 1 0 ((k.items.take r.from_.toNat ++ r.items).length) ((k.items.take r.from_.toNat ++ r.items).length)) (b := 1) (blk := rwB Zk (k.items.take r.from_.toNat ++ r.items)) (H' := [mxB 4 ([Iv r.epoch, Iv r.epoch, dead, slv 2 0 k.claims.length k.claims.length]), rwB Zk (k.items.take r.from_.toNat ++ r.items), rwR Zh k.claims, rwR Zk r.items, Y6 r p q, hole]) rfl rfl rfl (.inl ⟨_, rfl⟩) rfl rfl (Zuj Zk (by_ := 216) (k := p) (n' := ((k.items.take r.from_.toNat ++ r.items).length)) (ms := r.items) (fun _ => rfl) rfl rfl (Zmb Zk rfl rfl (by have := hp; omega)) rfl rfl (by omega) (by omega) (by decide) (by omega)) rfl (by kernel_rfl) ?_
  refine Zau (p := pt 0 0) (v := pt 0 0) (Zd (b := 0) (o := 0) (n := 0) (o' := 0) (Zd (b := 0) (o := 0) (n := 2) (o' := 2) (Zy (p := pt 0 2) (v := slv 1 0 ((k.items.take r.from_.toNat ++ r.items).length) ((k.items.take r.from_.toNat ++ r.items).length)) (b := 0) (blk := mxB 4 ([Iv r.epoch, Iv r.epoch, slv 1 0 ((k.items.take r.from_.toNat ++ r.items).length) ((k.items.take r.from_.toNat ++ r.items).length), slv 2 0 k.claims.length k.claims.length])) (H' := [mxB 4 ([Iv r.epoch, Iv r.epoch, slv 1 0 ((k.items.take r.from_.toNat ++ r.items).length) ((k.items.take r.from_.toNat ++ r.items).length), slv 2 0 k.claims.length k.claims.length]), rwB Zk (k.items.take r.from_.toNat ++ r.items), rwR Zh k.claims, rwR Zk r.items, Y6 r p q, hole]) ?_)))
  refine Zco (Za8 [[], [], [1], [1, 2], [1, 2, 3], [1, 2, 3, 4], [], [6], [1, 2, 3, 4, 5, 6, 7], [], [9], [1, 2, 3, 4, 5, 6, 7, 8, 9, 10], [0, 1, 2, 3, 4, 5, 6, 7, 8, 9, 10, 11], [0, 1, 2, 3, 4, 5, 6, 7, 8, 9, 10, 11, 12], [0, 1, 2, 3, 4, 5, 6, 7, 8, 9, 10, 11, 12, 13], [0, 1, 2, 3, 4, 5, 6, 7, 8, 9, 10, 11, 12, 13, 14]] (by kernel_rfl) (by kernel_rfl)) ?_
  refine Z1 (Zf (Zj (Zj (Zl (Zb (pt 0 0) (Zau (p := pt 0 0) (v := pt 0 0) (Zd (b := 0) (o := 0) (n := 0) (o' := 0) (Zi (p := pt 0 0) (v := mxV ([Iv r.epoch, Iv r.epoch, slv 1 0 ((k.items.take r.from_.toNat ++ r.items).length) ((k.items.take r.from_.toNat ++ r.items).length), slv 2 0 k.claims.length k.claims.length])) ?_))))))))
  refine Z2 (e := [some (1, 0), some (2, 0)]) (nid := 0) (Zd3 (G := G) (⟨r.epoch, r.epoch, (k.items.take r.from_.toNat ++ r.items), k.claims⟩ : Kept) ((k.items.take r.from_.toNat ++ r.items).length) ((k.items.take r.from_.toNat ++ r.items).length) k.claims.length k.claims.length rfl rfl (by omega) (by omega) (by omega) (by omega)) (vals := [mxV ([Iv r.epoch, Iv r.epoch, slv 1 0 ((k.items.take r.from_.toNat ++ r.items).length) ((k.items.take r.from_.toNat ++ r.items).length), slv 2 0 k.claims.length k.claims.length])]) (v := Iv (Zc7 (⟨r.epoch, r.epoch, (k.items.take r.from_.toNat ++ r.items), k.claims⟩ : Kept))) (H' := [mxB 4 ([Iv r.epoch, Iv r.epoch, slv 1 0 ((k.items.take r.from_.toNat ++ r.items).length) ((k.items.take r.from_.toNat ++ r.items).length), slv 2 0 k.claims.length k.claims.length]), rwB Zk (k.items.take r.from_.toNat ++ r.items), rwR Zh k.claims, rwR Zk r.items, Y6 r p q, hole]) rfl rfl rfl rfl rfl rfl rfl ⟨⟨(Z9 (by kernel_rfl) ⟨⟨rfl, rfl⟩, ⟨rfl, rfl⟩, ⟨rfl, rfl, rfl, by first | omega | exact Nat.le_refl _, by first | omega | exact Nat.le_refl _⟩, ⟨rfl, rfl, rfl, by first | omega | exact Nat.le_refl _, by first | omega | exact Nat.le_refl _⟩, trivial⟩), trivial⟩, ⟨(Zaa rfl), (Zae rfl), trivial⟩, rfl, rfl, rfl⟩ rfl (by kernel_rfl) ?_
  by_cases h10 : (Zc7 (⟨r.epoch, r.epoch, (k.items.take r.from_.toNat ++ r.items), k.claims⟩ : Kept)) ≠ 0
  refine Zn (vx := Iv (Zc7 (⟨r.epoch, r.epoch, (k.items.take r.from_.toNat ++ r.items), k.claims⟩ : Kept))) (vy := Iv 0) rfl rfl (.bool true) rfl rfl (Zc3 (by omega)) ?_
  refine Ze (Zf (Z8 rfl (Zj (Zl (Zc (Iv 140) (Ze (Zf (Zq (Z4 (Zp ?_))))))))))
  rw [show Zaf k r = ((⟨r.epoch, r.epoch, (k.items.take r.from_.toNat ++ r.items), k.claims⟩ : Kept), 140) from by first | exact Zfs (by omega) (by omega) | exact Zft (by omega) (by omega) | exact Zfu (by omega) (by omega) | exact Zfv (by omega) (by omega) (by omega) | exact (Zej (by omega) (by omega)).trans (Zdk (Za1 (by omega))) | exact (Zek (by omega) (by omega) (by omega)).trans (Zdk (Za1 (by omega))) | exact (Zel (by omega) (by omega) (by omega)).trans (Zdk (Za1 (by omega)))]
  exact Zm (v := Iv 140) rfl rfl rfl (by kernel_rfl) rfl
  refine Zn (vx := Iv (Zc7 (⟨r.epoch, r.epoch, (k.items.take r.from_.toNat ++ r.items), k.claims⟩ : Kept))) (vy := Iv 0) rfl rfl (.bool false) rfl rfl (Zbk (by omega)) ?_
  refine Ze (Zf (Zw rfl (Z7 (Zf (Zj (Zl (Zc (Iv 0) (Ze (Zf (Zq (Zp ?_)))))))))))
  rw [show Zaf k r = ((⟨r.epoch, r.epoch, (k.items.take r.from_.toNat ++ r.items), k.claims⟩ : Kept), 0) from by first | exact (Zej (by omega) (by omega)).trans (Zhv (Zb1 (by omega))) | exact (Zek (by omega) (by omega) (by omega)).trans (Zhv (Zb1 (by omega))) | exact (Zel (by omega) (by omega) (by omega)).trans (Zhv (Zb1 (by omega)))]
  exact Zm (v := Iv 0) rfl rfl rfl (by kernel_rfl) rfl
abbrev Y8 (k : Kept) (c : Nat) (d : Nat) : Blk := mxB 4 ([Iv k.epoch, Iv k.log, slv 0 0 k.items.length c, slv 1 0 k.claims.length d])
abbrev Y9 (r : Rec) (p : Nat) (q : Nat) : Blk := mxB 150 ([Iv r.kind, Iv r.epoch, Iv r.from_] ++ (Zt r.item ++ ([slv 2 0 p q] ++ (Zo r.claim))))
abbrev Y10  : Blk := mxB 4 ([Iv 0, Iv 0, .slice none 0 0, .slice none 0 0])
abbrev Y11 (k : Kept) : Blk := mxB 4 ([Iv k.epoch, Iv k.log, slv 6 0 k.items.length k.items.length, slv 7 0 k.claims.length k.claims.length])
abbrev Y12 (k : Kept) : Blk := mxB 4 ([Iv k.epoch, Iv k.log, dead, slv 7 0 k.claims.length k.claims.length])
abbrev Y13 (k : Kept) (r : Rec) : Blk := mxB 4 ([Iv ((Zaf k r).1.epoch), Iv ((Zaf k r).1.log), slv 6 0 ((Zaf k r).1.items.length) ((Zaf k r).1.items.length), slv 7 0 k.claims.length k.claims.length])
theorem Zrx (k : Kept) (c d : Nat) (hc : k.items.length ≤ c) (hd : k.claims.length ≤ d) (hb : k.items.length ≤ 100000) (hb2 : k.claims.length ≤ 100000) (r : Rec) (p q : Nat) (hp : r.items.length = p) (hq : p ≤ q) (hpb : p ≤ 100000) (hk3 : r.kind ≤ 3) : Zas Try.prog G 19 [mxV ([Iv k.epoch, Iv k.log, slv 0 0 k.items.length c, slv 1 0 k.claims.length d]), mxV ([Iv r.kind, Iv r.epoch, Iv r.from_] ++ (Zt r.item ++ ([slv 2 0 p q] ++ (Zo r.claim))))] [rwR Zk k.items, rwR Zh k.claims, rwR Zk r.items] (.tuple #[mxV ([Iv ((Zcw k r).1.epoch), Iv ((Zcw k r).1.log), slv 3 0 ((Zcw k r).1.items.length) ((Zcw k r).1.items.length), slv 4 0 ((Zcw k r).1.claims.length) ((Zcw k r).1.claims.length)]), Iv (Zcw k r).2]) [rwR Zk k.items, rwR Zh k.claims, rwR Zk r.items, rwB Zk (Zcw k r).1.items, rwB Zh (Zcw k r).1.claims] := by
  refine Zcv (fn := Try.f19) (nt := 42) rfl rfl rfl rfl ?_
  refine Zbq 8 (H' := [rwR Zk k.items, rwR Zh k.claims, rwR Zk r.items, hole, hole, hole, hole, hole, hole, hole, hole]) rfl ?_
  refine Zj (Zl (Zbw (v := mxV ([Iv k.epoch, Iv k.log, slv 0 0 k.items.length c, slv 1 0 k.claims.length d])) (b := mxB 4 ([Iv k.epoch, Iv k.log, slv 0 0 k.items.length c, slv 1 0 k.claims.length d])) (nid := 3) (H' := [rwR Zk k.items, rwR Zh k.claims, rwR Zk r.items, Y8 k c d, hole, hole, hole, hole, hole, hole, hole]) (Zbw (v := mxV ([Iv r.kind, Iv r.epoch, Iv r.from_] ++ (Zt r.item ++ ([slv 2 0 p q] ++ (Zo r.claim))))) (b := mxB 150 ([Iv r.kind, Iv r.epoch, Iv r.from_] ++ (Zt r.item ++ ([slv 2 0 p q] ++ (Zo r.claim))))) (nid := 4) (H' := [rwR Zk k.items, rwR Zh k.claims, rwR Zk r.items, Y8 k c d, Y9 r p q, hole, hole, hole, hole, hole, hole]) (Za4 (b := mxB 4 ([Iv 0, Iv 0, .slice none 0 0, .slice none 0 0])) (nid := 5) (H' := [rwR Zk k.items, rwR Zh k.claims, rwR Zk r.items, Y8 k c d, Y9 r p q, Y10, hole, hole, hole, hole, hole]) (Zc (Iv 0) (Ze (Zf (Zj (Zbm (Zj (Zl (Zi (p := pt 3 0) (v := mxV ([Iv k.epoch, Iv k.log, slv 0 0 k.items.length c, slv 1 0 k.claims.length d])) ?_))))))))))))
  refine Z2 (e := [some (0, 0), some (1, 0)]) (nid := 0) (Zd3 (G := G) k k.items.length c k.claims.length d rfl rfl (by omega) (by omega) (by omega) (by omega)) (vals := [mxV ([Iv k.epoch, Iv k.log, slv 0 0 k.items.length c, slv 1 0 k.claims.length d])]) (v := Iv (Zc7 k)) (H' := [rwR Zk k.items, rwR Zh k.claims, rwR Zk r.items, Y8 k c d, Y9 r p q, Y10, hole, hole, hole, hole, hole]) rfl rfl rfl rfl rfl rfl rfl ⟨⟨(Z9 (by kernel_rfl) ⟨⟨rfl, rfl⟩, ⟨rfl, rfl⟩, ⟨rfl, rfl, rfl, by first | omega | exact Nat.le_refl _, by first | omega | exact Nat.le_refl _⟩, ⟨rfl, rfl, rfl, by first | omega | exact Nat.le_refl _, by first | omega | exact Nat.le_refl _⟩, trivial⟩), trivial⟩, ⟨(Zae rfl), (Zae rfl), trivial⟩, rfl, rfl, rfl⟩ rfl (by kernel_rfl) ?_
  by_cases h1 : (Zc7 k) ≠ 0
  refine Zn (vx := Iv (Zc7 k)) (vy := Iv 0) rfl rfl (.bool true) rfl rfl (Zc3 (by omega)) ?_
  refine Zc (.bool true) (Ze (Zf (Z8 rfl (Zj (Zl ?_)))))
  refine Zbg (vs := []) (v := mxV ([Iv 0, Iv 0, .slice none 0 0, .slice none 0 0])) rfl rfl rfl (by kernel_rfl) ?_
  refine Zy (p := pt 5 0) (v := mxV ([Iv 0, Iv 0, .slice none 0 0, .slice none 0 0])) (b := 5) (blk := mxB 4 ([Iv 0, Iv 0, .slice none 0 0, .slice none 0 0])) (H' := [rwR Zk k.items, rwR Zh k.claims, rwR Zk r.items, Y8 k c d, Y9 r p q, Y10, hole, hole, hole, hole, hole]) (Zc (Iv 1) (Ze (Zf ?_)))
  refine Zda (Zch.nilCell (k := 5) (j := 2) (b := 6) true 110 rfl (by decide) rfl (by show 0 < 4; decide) rfl rfl) ?_
  refine Zda (Zch.nilCell (k := 5) (j := 3) (b := 7) true 36 rfl (by decide) rfl (by show 0 < 4; decide) rfl rfl) ?_
  refine Zq (Zag (Z4 (Zp ?_)))
  rw [show Zcw k r = (⟨0, 0, [], []⟩, 1) from Zyr (Za1 (by omega))]
  exact Zbe [0, 1, 2, 6, 7] (v := .tuple #[mxV ([Iv 0, Iv 0, slv 6 0 0 0, slv 7 0 0 0]), Iv 1]) rfl (by kernel_rfl) rfl rfl (by decide) (by simp [Zcl, rwB, rwR, Zk, Zh]) ⟨(Z9 (by kernel_rfl) ⟨⟨rfl, rfl⟩, ⟨rfl, rfl⟩, ⟨rfl, rfl, rfl, by first | omega | exact Nat.le_refl _ | exact Nat.zero_le _ | (dsimp only; omega), by first | omega | exact Nat.le_refl _ | exact Nat.zero_le _ | (dsimp only; omega)⟩, ⟨rfl, rfl, rfl, by first | omega | exact Nat.le_refl _ | exact Nat.zero_le _ | (dsimp only; omega), by first | omega | exact Nat.le_refl _ | exact Nat.zero_le _ | (dsimp only; omega)⟩, trivial⟩), rfl, trivial⟩
  refine Zn (vx := Iv (Zc7 k)) (vy := Iv 0) rfl rfl (.bool false) rfl rfl (Zbk (by omega)) ?_
  refine Zc (.bool false) (Ze (Zf (Zw rfl (Zj (Zl (Zi (p := pt 4 0) (v := mxV ([Iv r.kind, Iv r.epoch, Iv r.from_] ++ (Zt r.item ++ ([slv 2 0 p q] ++ (Zo r.claim))))) ?_))))))
  refine Z2 (e := [some (2, 0)]) (nid := 0) (Zst (G := G) r p q hp (by omega) (by omega)) (vals := [mxV ([Iv r.kind, Iv r.epoch, Iv r.from_] ++ (Zt r.item ++ ([slv 2 0 p q] ++ (Zo r.claim))))]) (v := .bool (decide (Zbs r))) (H' := [rwR Zk k.items, rwR Zh k.claims, rwR Zk r.items, Y8 k c d, Y9 r p q, Y10, hole, hole, hole, hole, hole]) rfl rfl rfl rfl rfl rfl rfl ⟨⟨(Z9 (by kernel_rfl) (Z0 ⟨⟨rfl, rfl⟩, ⟨rfl, rfl⟩, ⟨rfl, rfl⟩, trivial⟩ (Z0 (Zac (by kernel_rfl)) (Z0 ⟨⟨rfl, rfl, rfl, by first | omega | exact Nat.le_refl _, by first | omega | exact Nat.le_refl _⟩, trivial⟩ (Zac (by kernel_rfl)))))), trivial⟩, ⟨(Zae rfl), trivial⟩, rfl, rfl, rfl⟩ rfl (by kernel_rfl) ?_
  rcases Bool.eq_false_or_eq_true (decide (Zbs r)) with h2 | h2
  refine Zd1 (vx := .bool (decide (Zbs r))) rfl rfl (.bool false) rfl (Eq.trans Zbl (congrArg (fun b => some (Value.bool !b)) h2)) ?_
  refine Zc (.bool false) (Ze (Zf (Zw rfl (Z7 (Z1 (Zf (Zj ?_)))))))
  refine Zeu (by kernel_rfl) ?_
  refine Zd (b := 3) (o := 0) (n := 2) (o' := 2) (Zi (p := pt 3 2) (v := slv 0 0 k.items.length c) ?_)
  refine Z2 (e := [some (0, 0)]) (nid := 6) (Zmv (G := G) k.items k.items.length c rfl (by omega) (by omega)) (vals := [slv 0 0 k.items.length c]) (v := slv 6 0 k.items.length k.items.length) (H' := [rwR Zk k.items, rwR Zh k.claims, rwR Zk r.items, Y8 k c d, Y9 r p q, Y10, rwB Zk k.items, hole, hole, hole, hole]) rfl rfl rfl rfl rfl rfl rfl ⟨⟨⟨rfl, rfl, rfl, by first | omega | exact Nat.le_refl _, by first | omega | exact Nat.le_refl _⟩, trivial⟩, ⟨(Zae rfl), trivial⟩, rfl, rfl, rfl⟩ (by kernel_rfl) (by kernel_rfl) ?_
  refine Zd (b := 3) (o := 0) (n := 3) (o' := 3) (Zi (p := pt 3 3) (v := slv 1 0 k.claims.length d) ?_)
  refine Z2 (e := [some (1, 0)]) (nid := 7) (Zid (G := G) k.claims k.claims.length d rfl (by omega) (by omega)) (vals := [slv 1 0 k.claims.length d]) (v := slv 7 0 k.claims.length k.claims.length) (H' := [rwR Zk k.items, rwR Zh k.claims, rwR Zk r.items, Y8 k c d, Y9 r p q, Y10, rwB Zk k.items, rwB Zh k.claims, hole, hole, hole]) rfl rfl rfl rfl rfl rfl rfl ⟨⟨⟨rfl, rfl, rfl, by first | omega | exact Nat.le_refl _, by first | omega | exact Nat.le_refl _⟩, trivial⟩, ⟨(Zae rfl), trivial⟩, rfl, rfl, rfl⟩ (by kernel_rfl) (by kernel_rfl) ?_
  refine Zd (b := 3) (o := 0) (n := 2) (o' := 2) (Zy (p := pt 3 2) (v := slv 6 0 k.items.length k.items.length) (b := 3) (blk := mxB 4 ([Iv k.epoch, Iv k.log, slv 6 0 k.items.length k.items.length, slv 1 0 k.claims.length d])) (H' := [rwR Zk k.items, rwR Zh k.claims, rwR Zk r.items, mxB 4 ([Iv k.epoch, Iv k.log, slv 6 0 k.items.length k.items.length, slv 1 0 k.claims.length d]), Y9 r p q, Y10, rwB Zk k.items, rwB Zh k.claims, hole, hole, hole]) (Zd (b := 3) (o := 0) (n := 3) (o' := 3) (Zy (p := pt 3 3) (v := slv 7 0 k.claims.length k.claims.length) (b := 3) (blk := mxB 4 ([Iv k.epoch, Iv k.log, slv 6 0 k.items.length k.items.length, slv 7 0 k.claims.length k.claims.length])) (H' := [rwR Zk k.items, rwR Zh k.claims, rwR Zk r.items, Y11 k, Y9 r p q, Y10, rwB Zk k.items, rwB Zh k.claims, hole, hole, hole]) ?_)))
  refine Zco (Za8 [[], [0], [0, 1], [], [3], [0, 1, 2, 3, 4], [0, 1, 2, 3, 4], [0, 1, 2, 3, 4, 5, 6], [0, 1, 2, 3, 4, 5, 6, 7], [0, 1, 2, 3, 4, 5, 6, 7, 8]] (by kernel_rfl) (by kernel_rfl)) ?_
  refine Zf (Zj (Zl (Zi (p := pt 3 0) (v := mxV ([Iv k.epoch, Iv k.log, slv 6 0 k.items.length k.items.length, slv 7 0 k.claims.length k.claims.length])) ?_)))
  refine Zbg (vs := [(0, mxV ([Iv k.epoch, Iv k.log, slv 6 0 k.items.length k.items.length, slv 7 0 k.claims.length k.claims.length]))]) (v := mxV ([Iv k.epoch, Iv k.log, slv 6 0 k.items.length k.items.length, slv 7 0 k.claims.length k.claims.length])) rfl rfl rfl (by kernel_rfl) ?_
  refine Zbw (v := mxV ([Iv k.epoch, Iv k.log, slv 6 0 k.items.length k.items.length, slv 7 0 k.claims.length k.claims.length])) (b := mxB 4 ([Iv k.epoch, Iv k.log, slv 6 0 k.items.length k.items.length, slv 7 0 k.claims.length k.claims.length])) (nid := 8) (H' := [rwR Zk k.items, rwR Zh k.claims, rwR Zk r.items, Y11 k, Y9 r p q, Y10, rwB Zk k.items, rwB Zh k.claims, Y11 k, hole, hole]) (Zc (pt 8 0) (Ze (Zf (Zj (Zl (Zc (.func (.func 39) #[] #[]) (Ze (Zf (Zj (Zj (Zl (Zb (.func (.func 39) #[] #[]) (Zb (pt 8 0) (Zi (p := pt 4 0) (v := mxV ([Iv r.kind, Iv r.epoch, Iv r.from_] ++ (Zt r.item ++ ([slv 2 0 p q] ++ (Zo r.claim))))) ?_))))))))))))))
  have hmy4 := Zkd (of_decide_eq_true (by assumption : decide (Zbs r) = true))
  refine Zrb (e := [some (8, 0), some (6, 0), some (7, 0), some (2, 0)]) (nid := 0) (Zw7 (G := G) k r p q hp (by omega) (by omega) (by omega) (by omega) hmy4.1.1 (by omega) hmy4.2) (vals := [pt 8 0, mxV ([Iv r.kind, Iv r.epoch, Iv r.from_] ++ (Zt r.item ++ ([slv 2 0 p q] ++ (Zo r.claim))))]) (v := Iv ((Zaf k r).2)) (H' := [rwR Zk k.items, rwR Zh k.claims, rwR Zk r.items, Y12 k, Y9 r p q, Y10, rwB Zk ((Zaf k r).1.items), rwB Zh k.claims, Y13 k r, hole, hole]) rfl rfl rfl rfl rfl rfl ⟨⟨⟨rfl, rfl⟩, (Z9 (by kernel_rfl) (Z0 ⟨⟨rfl, rfl⟩, ⟨rfl, rfl⟩, ⟨rfl, rfl⟩, trivial⟩ (Z0 (Zac (by kernel_rfl)) (Z0 ⟨⟨rfl, rfl, rfl, by first | omega | exact Nat.le_refl _, by first | omega | exact Nat.le_refl _⟩, trivial⟩ (Zac (by kernel_rfl)))))), trivial⟩, ⟨(Zht (B := mxB 4 ([Iv k.epoch, Iv k.log, slv 6 0 k.items.length k.items.length, slv 7 0 k.claims.length k.claims.length])) (by kernel_rfl) rfl rfl (by kernel_rfl)), (Zht rfl rfl rfl rfl), (Zaa rfl), (Zae rfl), trivial⟩, rfl, rfl, rfl, Nat.le_refl _⟩ rfl rfl (by kernel_rfl) ?_
  refine Zc (Iv ((Zaf k r).2)) (Ze (Zf (Zj (Zl (Zb (Iv ((Zaf k r).2)) ?_)))))
  by_cases h3 : ((Zaf k r).2) ≠ 0
  refine Zn (vx := Iv ((Zaf k r).2)) (vy := Iv 0) rfl rfl (.bool true) rfl rfl (Zc3 (by omega)) ?_
  refine Ze (Zf (Z8 rfl (Zj (Zl ?_))))
  refine Zbg (vs := []) (v := mxV ([Iv 0, Iv 0, .slice none 0 0, .slice none 0 0])) rfl rfl rfl (by kernel_rfl) ?_
  refine Zb (Iv ((Zaf k r).2)) (Zy (p := pt 5 0) (v := mxV ([Iv 0, Iv 0, .slice none 0 0, .slice none 0 0])) (b := 5) (blk := mxB 4 ([Iv 0, Iv 0, .slice none 0 0, .slice none 0 0])) (H' := [rwR Zk k.items, rwR Zh k.claims, rwR Zk r.items, Y12 k, Y9 r p q, Y10, rwB Zk ((Zaf k r).1.items), rwB Zh k.claims, Y13 k r, hole, hole]) (Zc (Iv ((Zaf k r).2)) (Ze (Zf ?_))))
  refine Zda (Zch.nilCell (k := 5) (j := 2) (b := 9) true 110 rfl (by decide) rfl (by show 0 < 4; decide) rfl rfl) ?_
  refine Zda (Zch.nilCell (k := 5) (j := 3) (b := 10) true 36 rfl (by decide) rfl (by show 0 < 4; decide) rfl rfl) ?_
  refine Zq (Z4 (Zp ?_))
  rw [show Zcw k r = (⟨0, 0, [], []⟩, (Zaf k r).2) from Zyt (Zb1 (by omega)) (of_decide_eq_true (by assumption)) (by omega)]
  exact Zbe [0, 1, 2, 9, 10] (v := .tuple #[mxV ([Iv 0, Iv 0, slv 9 0 0 0, slv 10 0 0 0]), Iv ((Zaf k r).2)]) rfl (by kernel_rfl) rfl rfl (by decide) (by simp [Zcl, rwB, rwR, Zk, Zh]) ⟨(Z9 (by kernel_rfl) ⟨⟨rfl, rfl⟩, ⟨rfl, rfl⟩, ⟨rfl, rfl, rfl, by first | omega | exact Nat.le_refl _ | exact Nat.zero_le _ | (dsimp only; omega), by first | omega | exact Nat.le_refl _ | exact Nat.zero_le _ | (dsimp only; omega)⟩, ⟨rfl, rfl, rfl, by first | omega | exact Nat.le_refl _ | exact Nat.zero_le _ | (dsimp only; omega), by first | omega | exact Nat.le_refl _ | exact Nat.zero_le _ | (dsimp only; omega)⟩, trivial⟩), rfl, trivial⟩
  refine Zn (vx := Iv ((Zaf k r).2)) (vy := Iv 0) rfl rfl (.bool false) rfl rfl (Zbk (by omega)) ?_
  refine Ze (Zf (Zw rfl (Z7 (Zf (Zj (Zl (Zb (pt 8 0) (Zau (p := pt 8 0) (v := pt 8 0) (Zd (b := 8) (o := 0) (n := 0) (o' := 0) (Zi (p := pt 8 0) (v := mxV ([Iv ((Zaf k r).1.epoch), Iv ((Zaf k r).1.log), slv 6 0 ((Zaf k r).1.items.length) ((Zaf k r).1.items.length), slv 7 0 k.claims.length k.claims.length])) (Zy (p := pt 5 0) (v := mxV ([Iv ((Zaf k r).1.epoch), Iv ((Zaf k r).1.log), slv 6 0 ((Zaf k r).1.items.length) ((Zaf k r).1.items.length), slv 7 0 k.claims.length k.claims.length])) (b := 5) (blk := mxB 4 ([Iv ((Zaf k r).1.epoch), Iv ((Zaf k r).1.log), slv 6 0 ((Zaf k r).1.items.length) ((Zaf k r).1.items.length), slv 7 0 k.claims.length k.claims.length])) (H' := [rwR Zk k.items, rwR Zh k.claims, rwR Zk r.items, Y12 k, Y9 r p q, Y13 k r, rwB Zk ((Zaf k r).1.items), rwB Zh k.claims, Y13 k r, hole, hole]) (Zc (Iv 0) (Ze (Zf (Zq (Zp ?_))))))))))))))))
  rw [show Zcw k r = (⟨(Zaf k r).1.epoch, (Zaf k r).1.log, (Zaf k r).1.items, k.claims⟩, 0) from Zyu (Zb1 (by omega)) (of_decide_eq_true (by assumption)) (by omega)]
  exact Zbe [0, 1, 2, 6, 7] (v := .tuple #[mxV ([Iv ((Zaf k r).1.epoch), Iv ((Zaf k r).1.log), slv 6 0 ((Zaf k r).1.items.length) ((Zaf k r).1.items.length), slv 7 0 k.claims.length k.claims.length]), Iv 0]) rfl (by kernel_rfl) rfl rfl (by decide) (by simp [Zcl, rwB, rwR, Zk, Zh]) ⟨(Z9 (by kernel_rfl) ⟨⟨rfl, rfl⟩, ⟨rfl, rfl⟩, ⟨rfl, rfl, rfl, by first | omega | exact Nat.le_refl _ | exact Nat.zero_le _ | (dsimp only; omega), by first | omega | exact Nat.le_refl _ | exact Nat.zero_le _ | (dsimp only; omega)⟩, ⟨rfl, rfl, rfl, by first | omega | exact Nat.le_refl _ | exact Nat.zero_le _ | (dsimp only; omega), by first | omega | exact Nat.le_refl _ | exact Nat.zero_le _ | (dsimp only; omega)⟩, trivial⟩), rfl, trivial⟩
  refine Zd1 (vx := .bool (decide (Zbs r))) rfl rfl (.bool true) rfl (Eq.trans Zbl (congrArg (fun b => some (Value.bool !b)) h2)) ?_
  refine Zc (.bool true) (Ze (Zf (Z8 rfl (Zj (Zl ?_)))))
  refine Zbg (vs := []) (v := mxV ([Iv 0, Iv 0, .slice none 0 0, .slice none 0 0])) rfl rfl rfl (by kernel_rfl) ?_
  refine Zy (p := pt 5 0) (v := mxV ([Iv 0, Iv 0, .slice none 0 0, .slice none 0 0])) (b := 5) (blk := mxB 4 ([Iv 0, Iv 0, .slice none 0 0, .slice none 0 0])) (H' := [rwR Zk k.items, rwR Zh k.claims, rwR Zk r.items, Y8 k c d, Y9 r p q, Y10, hole, hole, hole, hole, hole]) (Zc (Iv 140) (Ze (Zf ?_)))
  refine Zda (Zch.nilCell (k := 5) (j := 2) (b := 6) true 110 rfl (by decide) rfl (by show 0 < 4; decide) rfl rfl) ?_
  refine Zda (Zch.nilCell (k := 5) (j := 3) (b := 7) true 36 rfl (by decide) rfl (by show 0 < 4; decide) rfl rfl) ?_
  refine Zq (Zag (Z4 (Zp ?_)))
  rw [show Zcw k r = (⟨0, 0, [], []⟩, 140) from Zys (Zb1 (by omega)) (of_decide_eq_false (by assumption))]
  exact Zbe [0, 1, 2, 6, 7] (v := .tuple #[mxV ([Iv 0, Iv 0, slv 6 0 0 0, slv 7 0 0 0]), Iv 140]) rfl (by kernel_rfl) rfl rfl (by decide) (by simp [Zcl, rwB, rwR, Zk, Zh]) ⟨(Z9 (by kernel_rfl) ⟨⟨rfl, rfl⟩, ⟨rfl, rfl⟩, ⟨rfl, rfl, rfl, by first | omega | exact Nat.le_refl _ | exact Nat.zero_le _ | (dsimp only; omega), by first | omega | exact Nat.le_refl _ | exact Nat.zero_le _ | (dsimp only; omega)⟩, ⟨rfl, rfl, rfl, by first | omega | exact Nat.le_refl _ | exact Nat.zero_le _ | (dsimp only; omega), by first | omega | exact Nat.le_refl _ | exact Nat.zero_le _ | (dsimp only; omega)⟩, trivial⟩), rfl, trivial⟩
end Go.Flat
