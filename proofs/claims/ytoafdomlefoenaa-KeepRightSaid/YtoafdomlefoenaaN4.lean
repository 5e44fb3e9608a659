/- Walks. -/
import Derived.Test.YtoafdomlefoenaaN3
set_option linter.unusedVariables false
set_option linter.unusedSimpArgs false
set_option maxRecDepth 20000
namespace Go.Flat
open Go.Proofs
variable {G : Glob}
def Zhd (k : Kept) : Kept × Int := (k, if Zb5 k then 0 else 140)
theorem Zin {k : Kept} (h : Zb5 k) : Zhd k = (k, 0) := by unfold Zhd; rw [if_pos h]
theorem Zdk {k : Kept} (h : ¬ Zb5 k) : Zhd k = (k, 140) := by unfold Zhd; rw [if_neg h]
def Zac (k : Kept) (r : Rec) : Kept × Int :=
  if r.kind = 1 then (if r.epoch < k.epoch then (k, 140) else Zhd ⟨r.epoch, k.log, k.items, k.claims⟩) else
  if r.kind = 2 then (if r.item.epoch = k.log ∧ Zen k.items k.items.length r.item = 0 then Zhd ⟨k.epoch, k.log, k.items ++ [r.item], k.claims⟩ else (k, 140)) else
  if r.epoch < k.epoch then (k, 140) else if (k.items.length : Int) < r.from_ then (k, 141) else Zhd ⟨r.epoch, r.epoch, k.items.take r.from_.toNat ++ r.items, k.claims⟩
section
variable {k : Kept} {r : Rec}
theorem Zfo (h : r.kind = 1) (h1 : r.epoch < k.epoch) : Zac k r = (k, 140) := by unfold Zac; rw [if_pos h, if_pos h1]
theorem Zeg (h : r.kind = 1) (h1 : ¬ r.epoch < k.epoch) : Zac k r = Zhd ⟨r.epoch, k.log, k.items, k.claims⟩ := by unfold Zac; rw [if_pos h, if_neg h1]
theorem Zfp (h : r.kind = 2) (h1 : ¬ (r.item.epoch = k.log ∧ Zen k.items k.items.length r.item = 0)) : Zac k r = (k, 140) := by unfold Zac; rw [if_neg (by omega), if_pos h, if_neg h1]
theorem Zeh (h : r.kind = 2) (h1 : r.item.epoch = k.log) (h2 : Zen k.items k.items.length r.item = 0) : Zac k r = Zhd ⟨k.epoch, k.log, k.items ++ [r.item], k.claims⟩ := by unfold Zac; rw [if_neg (by omega), if_pos h, if_pos ⟨h1, h2⟩]
theorem Zfq (h : r.kind = 3) (h1 : r.epoch < k.epoch) : Zac k r = (k, 140) := by unfold Zac; rw [if_neg (by omega), if_neg (by omega), if_pos h1]
theorem Zfr (h : r.kind = 3) (h1 : ¬ r.epoch < k.epoch) (h2 : (k.items.length : Int) < r.from_) : Zac k r = (k, 141) := by unfold Zac; rw [if_neg (by omega), if_neg (by omega), if_neg h1, if_pos h2]
theorem Zei (h : r.kind = 3) (h1 : ¬ r.epoch < k.epoch) (h2 : ¬ (k.items.length : Int) < r.from_) : Zac k r = Zhd ⟨r.epoch, r.epoch, k.items.take r.from_.toNat ++ r.items, k.claims⟩ := by unfold Zac; rw [if_neg (by omega), if_neg (by omega), if_neg h1, if_neg h2]
end
def Zcv (k : Kept) (r : Rec) : Kept × Int :=
  if Zb5 k then (if Zbr r then (if (Zac k r).2 = 0 then ((Zac k r).1, 0) else (⟨0, 0, [], []⟩, (Zac k r).2)) else (⟨0, 0, [], []⟩, 140)) else (⟨0, 0, [], []⟩, 1)
section
variable {k : Kept} {r : Rec}
theorem Zxw (h : ¬ Zb5 k) : Zcv k r = (⟨0, 0, [], []⟩, 1) := if_neg h
theorem Zxx (h : Zb5 k) (h1 : ¬ Zbr r) : Zcv k r = (⟨0, 0, [], []⟩, 140) := by unfold Zcv; rw [if_pos h, if_neg h1]
theorem Zxy (h : Zb5 k) (h1 : Zbr r) (h2 : ¬ (Zac k r).2 = 0) : Zcv k r = (⟨0, 0, [], []⟩, (Zac k r).2) := by unfold Zcv; rw [if_pos h, if_pos h1, if_neg h2]
theorem Zqi : (Zac k r).1.claims = k.claims := by
 unfold Zac Zhd
 split
 ·split <;> rfl
 ·split
  ·split <;> rfl
  ·split
   ·rfl
   ·split <;> rfl
theorem Zwd (h : Zb5 k) (h1 : Zbr r) (h2 : (Zac k r).2 = 0) : Zcv k r = ((Zac k r).1, 0) := by unfold Zcv; rw [if_pos h, if_pos h1, if_pos h2]
theorem Zxz (h : Zb5 k) (h1 : Zbr r) (h2 : (Zac k r).2 = 0) : Zcv k r = (⟨(Zac k r).1.epoch, (Zac k r).1.log, (Zac k r).1.items, k.claims⟩, 0) := by rw [Zwd h h1 h2, ← Zqi (r := r)]
end
abbrev Y5 (k : Kept) : Blk := mxB 4 ([Iv k.epoch, Iv k.log, slv 1 0 k.items.length k.items.length, slv 2 0 k.claims.length k.claims.length])
abbrev Y6 (r : Rec) (p : Nat) (q : Nat) : Blk := mxB 150 ([Iv r.kind, Iv r.epoch, Iv r.from_] ++ (Zs r.item ++ ([slv 3 0 p q] ++ (Zr r.claim))))
abbrev Y7 (k : Kept) (r : Rec) : Blk := mxB 4 ([Iv r.epoch, Iv k.log, slv 1 0 k.items.length k.items.length, slv 2 0 k.claims.length k.claims.length])
theorem Zwe (k : Kept) (r : Rec) (p q : Nat) (hp : r.items.length = p) (hq : p ≤ q) (hpb : p ≤ 100000) (hb : k.items.length ≤ 100000) (hb2 : k.claims.length ≤ 1048576) (hk1 : 1 ≤ r.kind) (hk3 : r.kind ≤ 3) (hf : r.kind = 3 → 0 ≤ r.from_ ∧ r.from_ ≤ 2000) : Zar Try.prog G 39 [pt 0 0, mxV ([Iv r.kind, Iv r.epoch, Iv r.from_] ++ (Zs r.item ++ ([slv 3 0 p q] ++ (Zr r.claim))))] [mxB 4 ([Iv k.epoch, Iv k.log, slv 1 0 k.items.length k.items.length, slv 2 0 k.claims.length k.claims.length]), rwB Zi k.items, rwR Zg k.claims, rwR Zi r.items] (Iv (Zac k r).2) [mxB 4 ([Iv ((Zac k r).1.epoch), Iv ((Zac k r).1.log), slv 1 0 ((Zac k r).1.items.length) ((Zac k r).1.items.length), slv 2 0 k.claims.length k.claims.length]), rwB Zi (Zac k r).1.items, rwR Zg k.claims, rwR Zi r.items] := by
  refine Zcu (fn := Try.f39) (nt := 134) rfl rfl rfl rfl ?_
  refine Zbo 2 (H' := [Y5 k, rwB Zi k.items, rwR Zg k.claims, rwR Zi r.items, hole, hole]) rfl ?_
  refine Zj (Zl (Zbx (v := mxV ([Iv r.kind, Iv r.epoch, Iv r.from_] ++ (Zs r.item ++ ([slv 3 0 p q] ++ (Zr r.claim))))) (b := mxB 150 ([Iv r.kind, Iv r.epoch, Iv r.from_] ++ (Zs r.item ++ ([slv 3 0 p q] ++ (Zr r.claim))))) (nid := 4) (H' := [Y5 k, rwB Zi k.items, rwR Zg k.claims, rwR Zi r.items, Y6 r p q, hole]) (Zc (Iv 0) (Zd (Zf (Zj (Zj (Zl (Ze (b := 4) (o := 0) (n := 0) (o' := 0) (Zk (p := pt 4 0) (v := Iv r.kind) (Zd (Zf (Zbk (Zj (Zl ?_)))))))))))))))
  by_cases h1 : r.kind = 1
  refine Zn (vx := Iv r.kind) (vy := Iv 1) rfl rfl (.bool true) rfl rfl (Zaw (by omega)) ?_
  refine Zc (.bool true) (Zd (Zf (Z5 rfl (Zj (Zj ?_)))))
  refine Zdg (by kernel_rfl) ?_
  refine Ze (b := 4) (o := 0) (n := 1) (o' := 1) (Zk (p := pt 4 1) (v := Iv r.epoch) (Zb (pt 0 0) (Zav (p := pt 0 0) (v := pt 0 0) (Ze (b := 0) (o := 0) (n := 0) (o' := 0) (Ze (b := 0) (o := 0) (n := 0) (o' := 0) (Zk (p := pt 0 0) (v := Iv k.epoch) ?_))))))
  by_cases h2 : r.epoch < k.epoch
  refine Zn (vx := Iv r.epoch) (vy := Iv k.epoch) rfl rfl (.bool true) rfl rfl (Zfb (by omega)) ?_
  refine Za9 (Zap [[], [0], [], [2], [2, 3], [2, 3, 4], [2, 3, 4, 5], [0, 1, 2, 3, 4, 5, 6]] (by kernel_rfl) (by kernel_rfl)) ?_
  refine Zf (Z5 rfl (Zj (Zl (Zc (Iv 140) (Zd (Zf (Zq (Z2 (Zad (Z2 (Zp ?_)))))))))))
  rw [show Zac k r = ((⟨k.epoch, k.log, k.items, k.claims⟩ : Kept), 140) from by first | exact Zfo (by omega) (by omega) | exact Zfp (by omega) (by omega) | exact Zfq (by omega) (by omega) | exact Zfr (by omega) (by omega) (by omega) | exact (Zeg (by omega) (by omega)).trans (Zdk (Za0 (by omega))) | exact (Zeh (by omega) (by omega) (by omega)).trans (Zdk (Za0 (by omega))) | exact (Zei (by omega) (by omega) (by omega)).trans (Zdk (Za0 (by omega)))]
  exact Zm (v := Iv 140) rfl rfl rfl (by kernel_rfl) rfl
  refine Zn (vx := Iv r.epoch) (vy := Iv k.epoch) rfl rfl (.bool false) rfl rfl (Zex (by omega)) ?_
  refine Za9 (Zap [[], [0], [], [2], [2, 3], [2, 3, 4], [2, 3, 4, 5], [0, 1, 2, 3, 4, 5, 6]] (by kernel_rfl) (by kernel_rfl)) ?_
  refine Zf (Zw rfl (Z8 (Zf (Zl (Zb (pt 0 0) (Ze (b := 4) (o := 0) (n := 1) (o' := 1) (Zk (p := pt 4 1) (v := Iv r.epoch) (Zav (p := pt 0 0) (v := pt 0 0) (Ze (b := 0) (o := 0) (n := 0) (o' := 0) (Ze (b := 0) (o := 0) (n := 0) (o' := 0) (Zz (p := pt 0 0) (v := Iv r.epoch) (b := 0) (blk := mxB 4 ([Iv r.epoch, Iv k.log, slv 1 0 k.items.length k.items.length, slv 2 0 k.claims.length k.claims.length])) (H' := [Y7 k r, rwB Zi k.items, rwR Zg k.claims, rwR Zi r.items, Y6 r p q, hole]) (Zd (Z1 (Zf (Zj (Zj (Zl (Zb (pt 0 0) (Zav (p := pt 0 0) (v := pt 0 0) (Ze (b := 0) (o := 0) (n := 0) (o' := 0) ?_))))))))))))))))))))
  refine Zk (p := pt 0 0) (v := mxV ([Iv r.epoch, Iv k.log, slv 1 0 k.items.length k.items.length, slv 2 0 k.claims.length k.claims.length])) ?_
  refine Z7 (e := [some (1, 0), some (2, 0)]) (nid := 0) (Zcp (G := G) (⟨r.epoch, k.log, k.items, k.claims⟩ : Kept) k.items.length k.items.length k.claims.length k.claims.length rfl rfl (by omega) (by omega) (by omega) (by omega)) (vals := [mxV ([Iv r.epoch, Iv k.log, slv 1 0 k.items.length k.items.length, slv 2 0 k.claims.length k.claims.length])]) (v := Iv (Zcd (⟨r.epoch, k.log, k.items, k.claims⟩ : Kept))) (H' := [Y7 k r, rwB Zi k.items, rwR Zg k.claims, rwR Zi r.items, Y6 r p q, hole]) rfl rfl rfl rfl rfl rfl rfl ⟨⟨(Zag (by kernel_rfl) ⟨⟨rfl, rfl⟩, ⟨rfl, rfl⟩, ⟨rfl, rfl, rfl, by first | omega | exact Nat.le_refl _, by first | omega | exact Nat.le_refl _⟩, ⟨rfl, rfl, rfl, by first | omega | exact Nat.le_refl _, by first | omega | exact Nat.le_refl _⟩, trivial⟩), trivial⟩, ⟨(Za7 rfl), (Zab rfl), trivial⟩, rfl, rfl, rfl⟩ rfl (by kernel_rfl) ?_
  by_cases h3 : (Zcd (⟨r.epoch, k.log, k.items, k.claims⟩ : Kept)) ≠ 0
  refine Zn (vx := Iv (Zcd (⟨r.epoch, k.log, k.items, k.claims⟩ : Kept))) (vy := Iv 0) rfl rfl (.bool true) rfl rfl (Zdd (by omega)) ?_
  refine Zd (Zf (Z5 rfl (Zj (Zl (Zc (Iv 140) (Zd (Zf (Zq (Z2 (Zp ?_))))))))))
  rw [show Zac k r = ((⟨r.epoch, k.log, k.items, k.claims⟩ : Kept), 140) from by first | exact Zfo (by omega) (by omega) | exact Zfp (by omega) (by omega) | exact Zfq (by omega) (by omega) | exact Zfr (by omega) (by omega) (by omega) | exact (Zeg (by omega) (by omega)).trans (Zdk (Za0 (by omega))) | exact (Zeh (by omega) (by omega) (by omega)).trans (Zdk (Za0 (by omega))) | exact (Zei (by omega) (by omega) (by omega)).trans (Zdk (Za0 (by omega)))]
  exact Zm (v := Iv 140) rfl rfl rfl (by kernel_rfl) rfl
  refine Zn (vx := Iv (Zcd (⟨r.epoch, k.log, k.items, k.claims⟩ : Kept))) (vy := Iv 0) rfl rfl (.bool false) rfl rfl (Zdc (by omega)) ?_
  refine Zd (Zf (Zw rfl (Z8 (Zf (Zj (Zl (Zc (Iv 0) (Zd (Zf (Zq (Zp ?_)))))))))))
  rw [show Zac k r = ((⟨r.epoch, k.log, k.items, k.claims⟩ : Kept), 0) from by first | exact (Zeg (by omega) (by omega)).trans (Zin (Zby (by omega))) | exact (Zeh (by omega) (by omega) (by omega)).trans (Zin (Zby (by omega))) | exact (Zei (by omega) (by omega) (by omega)).trans (Zin (Zby (by omega)))]
  exact Zm (v := Iv 0) rfl rfl rfl (by kernel_rfl) rfl
  refine Zn (vx := Iv r.kind) (vy := Iv 1) rfl rfl (.bool false) rfl rfl (Zbj (by omega)) ?_
  refine Zc (.bool false) (Zd (Zf (Zw rfl (Zj (Zl ?_)))))
  by_cases h4 : r.kind = 2
  refine Zn (vx := Iv r.kind) (vy := Iv 2) rfl rfl (.bool true) rfl rfl (Zaw (by omega)) ?_
  refine Zc (.bool true) (Zd (Zf (Z5 rfl (Zj (Zj ?_)))))
  refine Zep (by kernel_rfl) ?_
  refine Ze (b := 4) (o := 0) (n := 3) (o' := 3) (Ze (b := 4) (o := 3) (n := 0) (o' := 3) (Zk (p := pt 4 3) (v := Iv r.item.epoch) (Zb (pt 0 0) (Zav (p := pt 0 0) (v := pt 0 0) (Ze (b := 0) (o := 0) (n := 0) (o' := 0) (Ze (b := 0) (o := 0) (n := 1) (o' := 1) (Zk (p := pt 0 1) (v := Iv k.log) ?_)))))))
  by_cases h5 : r.item.epoch ≠ k.log
  refine Zn (vx := Iv r.item.epoch) (vy := Iv k.log) rfl rfl (.bool true) rfl rfl (Zdd (by omega)) ?_
  refine Zb (.bool true) (Za (Za (Za (Za (Za (Za (Za (Za (Za (Zh (.bool true) ?_))))))))))
  refine Zcn (Za6 [[], [0], [0, 1], [], [3], [3, 4], [3, 4, 5], [3, 4, 5, 6], [0, 1, 2, 3, 4, 5, 6, 7], [0, 1, 2, 3, 4, 5, 6, 7, 8], [0, 1, 2, 3, 4, 5, 6, 7, 8, 9], [0, 1, 2, 3, 4, 5, 6, 7, 8, 9, 10], [0, 1, 2, 3, 4, 5, 6, 7, 8, 9, 10, 11], [0, 1, 2, 3, 4, 5, 6, 7, 8, 9, 10, 11, 12], [0, 1, 2, 3, 4, 5, 6, 7, 8, 9, 10, 11, 12, 13], [0, 1, 2, 3, 4, 5, 6, 7, 8, 9], [0, 1, 2, 3, 4, 5, 6, 7, 8, 9, 15], [0, 1, 2, 3, 4, 5, 6, 7, 8, 9, 10, 11, 12, 13, 14, 15, 16], [0, 1, 2, 3, 4, 5, 6, 7, 8, 9, 10, 11, 12, 13, 14, 15, 16, 17], [0, 1, 2, 3, 4, 5, 6, 7, 8, 9, 10, 11, 12, 13, 14, 15, 16, 17, 18]] (by kernel_rfl) (by kernel_rfl)) ?_
  refine Zf (Z5 rfl (Zj (Zl (Zc (Iv 140) (Zd (Zf (Zq (Z2 (Zad (Z2 (Zp ?_)))))))))))
  rw [show Zac k r = ((⟨k.epoch, k.log, k.items, k.claims⟩ : Kept), 140) from by first | exact Zfo (by omega) (by omega) | exact Zfp (by omega) (by omega) | exact Zfq (by omega) (by omega) | exact Zfr (by omega) (by omega) (by omega) | exact (Zeg (by omega) (by omega)).trans (Zdk (Za0 (by omega))) | exact (Zeh (by omega) (by omega) (by omega)).trans (Zdk (Za0 (by omega))) | exact (Zei (by omega) (by omega) (by omega)).trans (Zdk (Za0 (by omega)))]
  exact Zm (v := Iv 140) rfl rfl rfl (by kernel_rfl) rfl
  refine Zn (vx := Iv r.item.epoch) (vy := Iv k.log) rfl rfl (.bool false) rfl rfl (Zdc (by omega)) ?_
  refine Zb (.bool false) (Zb (pt 0 0) (Zav (p := pt 0 0) (v := pt 0 0) (Ze (b := 0) (o := 0) (n := 0) (o' := 0) (Ze (b := 0) (o := 0) (n := 2) (o' := 2) (Zk (p := pt 0 2) (v := slv 1 0 k.items.length k.items.length) (Ze (b := 4) (o := 0) (n := 3) (o' := 3) (Zk (p := pt 4 3) (v := Zao r.item) ?_)))))))
  refine Z7 (e := [some (1, 0)]) (nid := 0) (Zxm (G := G) k.items k.items.length k.items.length rfl (by omega) (by omega) r.item) (vals := [slv 1 0 k.items.length k.items.length, Zao r.item]) (v := Iv (Zen k.items k.items.length r.item)) (H' := [Y5 k, rwB Zi k.items, rwR Zg k.claims, rwR Zi r.items, Y6 r p q, hole]) rfl rfl rfl rfl rfl rfl rfl ⟨⟨⟨rfl, rfl, rfl, by first | omega | exact Nat.le_refl _, by first | omega | exact Nat.le_refl _⟩, rfl, trivial⟩, ⟨(Za7 rfl), trivial⟩, rfl, rfl, rfl⟩ rfl (by kernel_rfl) ?_
  by_cases h6 : (Zen k.items k.items.length r.item) ≠ 0
  refine Zn (vx := Iv (Zen k.items k.items.length r.item)) (vy := Iv 0) rfl rfl (.bool true) rfl rfl (Zdd (by omega)) ?_
  refine Zh (.bool true) ?_
  refine Zcn (Za6 [[], [0], [0, 1], [], [3], [3, 4], [3, 4, 5], [3, 4, 5, 6], [0, 1, 2, 3, 4, 5, 6, 7], [0, 1, 2, 3, 4, 5, 6, 7, 8], [0, 1, 2, 3, 4, 5, 6, 7, 8, 9], [0, 1, 2, 3, 4, 5, 6, 7, 8, 9, 10], [0, 1, 2, 3, 4, 5, 6, 7, 8, 9, 10, 11], [0, 1, 2, 3, 4, 5, 6, 7, 8, 9, 10, 11, 12], [0, 1, 2, 3, 4, 5, 6, 7, 8, 9, 10, 11, 12, 13], [0, 1, 2, 3, 4, 5, 6, 7, 8, 9], [0, 1, 2, 3, 4, 5, 6, 7, 8, 9, 15], [0, 1, 2, 3, 4, 5, 6, 7, 8, 9, 10, 11, 12, 13, 14, 15, 16], [0, 1, 2, 3, 4, 5, 6, 7, 8, 9, 10, 11, 12, 13, 14, 15, 16, 17], [0, 1, 2, 3, 4, 5, 6, 7, 8, 9, 10, 11, 12, 13, 14, 15, 16, 17, 18]] (by kernel_rfl) (by kernel_rfl)) ?_
  refine Zf (Z5 rfl (Zj (Zl (Zc (Iv 140) (Zd (Zf (Zq (Z2 (Zad (Z2 (Zp ?_)))))))))))
  rw [show Zac k r = ((⟨k.epoch, k.log, k.items, k.claims⟩ : Kept), 140) from by first | exact Zfo (by omega) (by omega) | exact Zfp (by omega) (by omega) | exact Zfq (by omega) (by omega) | exact Zfr (by omega) (by omega) (by omega) | exact (Zeg (by omega) (by omega)).trans (Zdk (Za0 (by omega))) | exact (Zeh (by omega) (by omega) (by omega)).trans (Zdk (Za0 (by omega))) | exact (Zei (by omega) (by omega) (by omega)).trans (Zdk (Za0 (by omega)))]
  exact Zm (v := Iv 140) rfl rfl rfl (by kernel_rfl) rfl
  refine Zn (vx := Iv (Zen k.items k.items.length r.item)) (vy := Iv 0) rfl rfl (.bool false) rfl rfl (Zdc (by omega)) ?_
  refine Zh (.bool false) ?_
  refine Zcn (Za6 [[], [0], [0, 1], [], [3], [3, 4], [3, 4, 5], [3, 4, 5, 6], [0, 1, 2, 3, 4, 5, 6, 7], [0, 1, 2, 3, 4, 5, 6, 7, 8], [0, 1, 2, 3, 4, 5, 6, 7, 8, 9], [0, 1, 2, 3, 4, 5, 6, 7, 8, 9, 10], [0, 1, 2, 3, 4, 5, 6, 7, 8, 9, 10, 11], [0, 1, 2, 3, 4, 5, 6, 7, 8, 9, 10, 11, 12], [0, 1, 2, 3, 4, 5, 6, 7, 8, 9, 10, 11, 12, 13], [0, 1, 2, 3, 4, 5, 6, 7, 8, 9], [0, 1, 2, 3, 4, 5, 6, 7, 8, 9, 15], [0, 1, 2, 3, 4, 5, 6, 7, 8, 9, 10, 11, 12, 13, 14, 15, 16], [0, 1, 2, 3, 4, 5, 6, 7, 8, 9, 10, 11, 12, 13, 14, 15, 16, 17], [0, 1, 2, 3, 4, 5, 6, 7, 8, 9, 10, 11, 12, 13, 14, 15, 16, 17, 18]] (by kernel_rfl) (by kernel_rfl)) ?_
  refine Zf (Zw rfl (Z8 (Zf ?_)))
  refine Zep (by kernel_rfl) ?_
  refine Zb (pt 0 0) (Zb (pt 0 0) (Zav (p := pt 0 0) (v := pt 0 0) (Ze (b := 0) (o := 0) (n := 0) (o' := 0) (Ze (b := 0) (o := 0) (n := 2) (o' := 2) (Zk (p := pt 0 2) (v := slv 1 0 k.items.length k.items.length) (Ze (b := 4) (o := 0) (n := 3) (o' := 3) (Zk (p := pt 4 3) (v := Zao r.item) ?_)))))))
  refine Zp0 (vs := [(0, Zao r.item)]) (v := slv 5 0 1 1) (blk := rwB Zi [r.item]) (nid := 5) (H' := [Y5 k, rwB Zi k.items, rwR Zg k.claims, rwR Zi r.items, Y6 r p q, rwB Zi [r.item]]) rfl rfl rfl (by kernel_rfl) (by kernel_rfl) ?_
  have hl3 : (k.items ++ [r.item]).length = k.items.length + 1 := by have := (rfl : _ = 1); first | (rw [List.length_append]; omega) | (rw [List.length_append, List.length_take]; omega) | (simp; omega) | simp
  refine Zhu (p := slv 1 0 k.items.length k.items.length) (q := slv 5 0 1 1) (v := slv 1 0 ((k.items ++ [r.item]).length) ((k.items ++ [r.item]).length)) (b := 1) (blk := rwB Zi (k.items ++ [r.item])) (H' := [mxB 4 ([Iv k.epoch, Iv k.log, dead, slv 2 0 k.claims.length k.claims.length]), rwB Zi (k.items ++ [r.item]), rwR Zg k.claims, rwR Zi r.items, Y6 r p q, rwB Zi [r.item]]) rfl rfl rfl (.inl ⟨_, rfl⟩) rfl rfl (Zkx Zi (by_ := 216) (k := 1) (n' := ((k.items ++ [r.item]).length)) (ms := [r.item]) (fun _ => rfl) rfl rfl (by kernel_rfl) rfl rfl (by omega) (by omega) (by decide) (by omega)) rfl (by kernel_rfl) ?_
  refine Zav (p := pt 0 0) (v := pt 0 0) (Ze (b := 0) (o := 0) (n := 0) (o' := 0) (Ze (b := 0) (o := 0) (n := 2) (o' := 2) (Zz (p := pt 0 2) (v := slv 1 0 ((k.items ++ [r.item]).length) ((k.items ++ [r.item]).length)) (b := 0) (blk := mxB 4 ([Iv k.epoch, Iv k.log, slv 1 0 ((k.items ++ [r.item]).length) ((k.items ++ [r.item]).length), slv 2 0 k.claims.length k.claims.length])) (H' := [mxB 4 ([Iv k.epoch, Iv k.log, slv 1 0 ((k.items ++ [r.item]).length) ((k.items ++ [r.item]).length), slv 2 0 k.claims.length k.claims.length]), rwB Zi (k.items ++ [r.item]), rwR Zg k.claims, rwR Zi r.items, Y6 r p q, rwB Zi [r.item]]) ?_)))
  refine Zcn (Za6 [[], [], [1], [1, 2], [1, 2, 3], [1, 2, 3, 4], [], [6], [6, 7], [1, 2, 3, 4, 5, 6, 7, 8], [0, 1, 2, 3, 4, 5, 6, 7, 8, 9], [0, 1, 2, 3, 4, 5, 6, 7, 8, 9, 10], [0, 1, 2, 3, 4, 5, 6, 7, 8, 9, 10, 11], [0, 1, 2, 3, 4, 5, 6, 7, 8, 9, 10, 11, 12]] (by kernel_rfl) (by kernel_rfl)) ?_
  refine Z1 (Zf (Zj (Zj (Zl (Zb (pt 0 0) (Zav (p := pt 0 0) (v := pt 0 0) (Ze (b := 0) (o := 0) (n := 0) (o' := 0) (Zk (p := pt 0 0) (v := mxV ([Iv k.epoch, Iv k.log, slv 1 0 ((k.items ++ [r.item]).length) ((k.items ++ [r.item]).length), slv 2 0 k.claims.length k.claims.length])) ?_))))))))
  refine Z7 (e := [some (1, 0), some (2, 0)]) (nid := 0) (Zcp (G := G) (⟨k.epoch, k.log, (k.items ++ [r.item]), k.claims⟩ : Kept) ((k.items ++ [r.item]).length) ((k.items ++ [r.item]).length) k.claims.length k.claims.length rfl rfl (by omega) (by omega) (by omega) (by omega)) (vals := [mxV ([Iv k.epoch, Iv k.log, slv 1 0 ((k.items ++ [r.item]).length) ((k.items ++ [r.item]).length), slv 2 0 k.claims.length k.claims.length])]) (v := Iv (Zcd (⟨k.epoch, k.log, (k.items ++ [r.item]), k.claims⟩ : Kept))) (H' := [mxB 4 ([Iv k.epoch, Iv k.log, slv 1 0 ((k.items ++ [r.item]).length) ((k.items ++ [r.item]).length), slv 2 0 k.claims.length k.claims.length]), rwB Zi (k.items ++ [r.item]), rwR Zg k.claims, rwR Zi r.items, Y6 r p q, rwB Zi [r.item]]) rfl rfl rfl rfl rfl rfl rfl ⟨⟨(Zag (by kernel_rfl) ⟨⟨rfl, rfl⟩, ⟨rfl, rfl⟩, ⟨rfl, rfl, rfl, by first | omega | exact Nat.le_refl _, by first | omega | exact Nat.le_refl _⟩, ⟨rfl, rfl, rfl, by first | omega | exact Nat.le_refl _, by first | omega | exact Nat.le_refl _⟩, trivial⟩), trivial⟩, ⟨(Za7 rfl), (Zab rfl), trivial⟩, rfl, rfl, rfl⟩ rfl (by kernel_rfl) ?_
  by_cases h7 : (Zcd (⟨k.epoch, k.log, (k.items ++ [r.item]), k.claims⟩ : Kept)) ≠ 0
  refine Zn (vx := Iv (Zcd (⟨k.epoch, k.log, (k.items ++ [r.item]), k.claims⟩ : Kept))) (vy := Iv 0) rfl rfl (.bool true) rfl rfl (Zdd (by omega)) ?_
  refine Zd (Zf (Z5 rfl (Zj (Zl (Zc (Iv 140) (Zd (Zf (Zq (Z2 (Zp ?_))))))))))
  rw [show Zac k r = ((⟨k.epoch, k.log, (k.items ++ [r.item]), k.claims⟩ : Kept), 140) from by first | exact Zfo (by omega) (by omega) | exact Zfp (by omega) (by omega) | exact Zfq (by omega) (by omega) | exact Zfr (by omega) (by omega) (by omega) | exact (Zeg (by omega) (by omega)).trans (Zdk (Za0 (by omega))) | exact (Zeh (by omega) (by omega) (by omega)).trans (Zdk (Za0 (by omega))) | exact (Zei (by omega) (by omega) (by omega)).trans (Zdk (Za0 (by omega)))]
  exact Zm (v := Iv 140) rfl rfl rfl (by kernel_rfl) rfl
  refine Zn (vx := Iv (Zcd (⟨k.epoch, k.log, (k.items ++ [r.item]), k.claims⟩ : Kept))) (vy := Iv 0) rfl rfl (.bool false) rfl rfl (Zdc (by omega)) ?_
  refine Zd (Zf (Zw rfl (Z8 (Zf (Zj (Zl (Zc (Iv 0) (Zd (Zf (Zq (Zp ?_)))))))))))
  rw [show Zac k r = ((⟨k.epoch, k.log, (k.items ++ [r.item]), k.claims⟩ : Kept), 0) from by first | exact (Zeg (by omega) (by omega)).trans (Zin (Zby (by omega))) | exact (Zeh (by omega) (by omega) (by omega)).trans (Zin (Zby (by omega))) | exact (Zei (by omega) (by omega) (by omega)).trans (Zin (Zby (by omega)))]
  exact Zm (v := Iv 0) rfl rfl rfl (by kernel_rfl) rfl
  refine Zn (vx := Iv r.kind) (vy := Iv 2) rfl rfl (.bool false) rfl rfl (Zbj (by omega)) ?_
  refine Zc (.bool false) (Zd (Zf (Zw rfl (Zj (Zl ?_)))))
  refine Zn (vx := Iv r.kind) (vy := Iv 3) rfl rfl (.bool true) rfl rfl (Zaw (by omega)) ?_
  refine Zc (.bool true) (Zd (Zf (Z5 rfl (Zj (Zbk (Zj ?_))))))
  obtain ⟨hfr0, hfr1⟩ := hf (by omega)
  refine Zdg (by kernel_rfl) ?_
  refine Ze (b := 4) (o := 0) (n := 1) (o' := 1) (Zk (p := pt 4 1) (v := Iv r.epoch) (Zb (pt 0 0) (Zav (p := pt 0 0) (v := pt 0 0) (Ze (b := 0) (o := 0) (n := 0) (o' := 0) (Ze (b := 0) (o := 0) (n := 0) (o' := 0) (Zk (p := pt 0 0) (v := Iv k.epoch) ?_))))))
  by_cases h8 : r.epoch < k.epoch
  refine Zn (vx := Iv r.epoch) (vy := Iv k.epoch) rfl rfl (.bool true) rfl rfl (Zfb (by omega)) ?_
  refine Zc (.bool true) ?_
  refine Za9 (Zap [[], [0], [], [2], [2, 3], [2, 3, 4], [2, 3, 4, 5], [0, 1, 2, 3, 4, 5, 6], [0, 1, 2, 3, 4, 5, 6, 7]] (by kernel_rfl) (by kernel_rfl)) ?_
  refine Zf (Z5 rfl (Zj (Zl (Zc (Iv 140) (Zd (Zf (Zq (Zad (Z2 (Zad (Z2 (Zp ?_))))))))))))
  rw [show Zac k r = ((⟨k.epoch, k.log, k.items, k.claims⟩ : Kept), 140) from by first | exact Zfo (by omega) (by omega) | exact Zfp (by omega) (by omega) | exact Zfq (by omega) (by omega) | exact Zfr (by omega) (by omega) (by omega) | exact (Zeg (by omega) (by omega)).trans (Zdk (Za0 (by omega))) | exact (Zeh (by omega) (by omega) (by omega)).trans (Zdk (Za0 (by omega))) | exact (Zei (by omega) (by omega) (by omega)).trans (Zdk (Za0 (by omega)))]
  exact Zm (v := Iv 140) rfl rfl rfl (by kernel_rfl) rfl
  refine Zn (vx := Iv r.epoch) (vy := Iv k.epoch) rfl rfl (.bool false) rfl rfl (Zex (by omega)) ?_
  refine Zc (.bool false) ?_
  refine Za9 (Zap [[], [0], [], [2], [2, 3], [2, 3, 4], [2, 3, 4, 5], [0, 1, 2, 3, 4, 5, 6], [0, 1, 2, 3, 4, 5, 6, 7]] (by kernel_rfl) (by kernel_rfl)) ?_
  refine Zf (Zw rfl (Zj ?_))
  refine Zdg (by kernel_rfl) ?_
  refine Ze (b := 4) (o := 0) (n := 2) (o' := 2) (Zk (p := pt 4 2) (v := Iv r.from_) (Zb (pt 0 0) (Zav (p := pt 0 0) (v := pt 0 0) (Ze (b := 0) (o := 0) (n := 0) (o' := 0) (Ze (b := 0) (o := 0) (n := 2) (o' := 2) (Zk (p := pt 0 2) (v := slv 1 0 k.items.length k.items.length) (Zbd (p := slv 1 0 k.items.length k.items.length) (v := Iv (k.items.length : Nat)) ?_)))))))
  by_cases h9 : (k.items.length : Nat) < r.from_
  refine Zn (vx := Iv r.from_) (vy := Iv (k.items.length : Nat)) rfl rfl (.bool true) rfl rfl (Zhn (by omega)) ?_
  refine Zc (.bool true) ?_
  refine Za9 (Zap [[], [0], [], [2], [2, 3], [2, 3, 4], [2, 3, 4, 5], [2, 3, 4, 5, 6], [0, 1, 2, 3, 4, 5, 6, 7], [0, 1, 2, 3, 4, 5, 6, 7, 8]] (by kernel_rfl) (by kernel_rfl)) ?_
  refine Zf (Z5 rfl (Zj (Zl (Zc (Iv 141) (Zd (Zf (Zq (Zad (Z2 (Zad (Z2 (Zp ?_))))))))))))
  rw [show Zac k r = ((⟨k.epoch, k.log, k.items, k.claims⟩ : Kept), 141) from by first | exact Zfo (by omega) (by omega) | exact Zfp (by omega) (by omega) | exact Zfq (by omega) (by omega) | exact Zfr (by omega) (by omega) (by omega) | exact (Zeg (by omega) (by omega)).trans (Zdk (Za0 (by omega))) | exact (Zeh (by omega) (by omega) (by omega)).trans (Zdk (Za0 (by omega))) | exact (Zei (by omega) (by omega) (by omega)).trans (Zdk (Za0 (by omega)))]
  exact Zm (v := Iv 141) rfl rfl rfl (by kernel_rfl) rfl
  refine Zn (vx := Iv r.from_) (vy := Iv (k.items.length : Nat)) rfl rfl (.bool false) rfl rfl (Zgq (by omega)) ?_
  refine Zc (.bool false) ?_
  refine Za9 (Zap [[], [0], [], [2], [2, 3], [2, 3, 4], [2, 3, 4, 5], [2, 3, 4, 5, 6], [0, 1, 2, 3, 4, 5, 6, 7], [0, 1, 2, 3, 4, 5, 6, 7, 8]] (by kernel_rfl) (by kernel_rfl)) ?_
  refine Zf (Zw rfl (Z8 (Z1 (Zf (Zj ?_)))))
  refine Zdg (by kernel_rfl) ?_
  refine Zb (pt 0 0) (Zb (pt 0 0) (Ze (b := 4) (o := 0) (n := 1) (o' := 1) (Zk (p := pt 4 1) (v := Iv r.epoch) (Ze (b := 4) (o := 0) (n := 1) (o' := 1) (Zk (p := pt 4 1) (v := Iv r.epoch) (Zav (p := pt 0 0) (v := pt 0 0) (Ze (b := 0) (o := 0) (n := 0) (o' := 0) (Ze (b := 0) (o := 0) (n := 0) (o' := 0) (Zz (p := pt 0 0) (v := Iv r.epoch) (b := 0) (blk := mxB 4 ([Iv r.epoch, Iv k.log, slv 1 0 k.items.length k.items.length, slv 2 0 k.claims.length k.claims.length])) (H' := [Y7 k r, rwB Zi k.items, rwR Zg k.claims, rwR Zi r.items, Y6 r p q, hole]) (Zav (p := pt 0 0) (v := pt 0 0) (Ze (b := 0) (o := 0) (n := 0) (o' := 0) ?_)))))))))))
  refine Ze (b := 0) (o := 0) (n := 1) (o' := 1) (Zz (p := pt 0 1) (v := Iv r.epoch) (b := 0) (blk := mxB 4 ([Iv r.epoch, Iv r.epoch, slv 1 0 k.items.length k.items.length, slv 2 0 k.claims.length k.claims.length])) (H' := [mxB 4 ([Iv r.epoch, Iv r.epoch, slv 1 0 k.items.length k.items.length, slv 2 0 k.claims.length k.claims.length]), rwB Zi k.items, rwR Zg k.claims, rwR Zi r.items, Y6 r p q, hole]) ?_)
  refine Za9 (Zap [[], [], [], [2], [], [4], [0, 2, 3], [0, 2, 3, 6], [0, 2, 3, 6, 7], [0, 2, 3, 6, 7, 8], [0, 1, 2, 3, 4, 5, 6, 7, 8, 9], [0, 1, 2, 3, 4, 5, 6, 7, 8, 9, 10], [0, 1, 2, 3, 4, 5, 6, 7, 8, 9, 10, 11], [0, 1, 2, 3, 4, 5, 6, 7, 8, 9, 10, 11, 12]] (by kernel_rfl) (by kernel_rfl)) ?_
  refine Zf ?_
  refine Zep (by kernel_rfl) ?_
  refine Zb (pt 0 0) (Zb (pt 0 0) (Zav (p := pt 0 0) (v := pt 0 0) (Ze (b := 0) (o := 0) (n := 0) (o' := 0) (Ze (b := 0) (o := 0) (n := 2) (o' := 2) (Zk (p := pt 0 2) (v := slv 1 0 k.items.length k.items.length) (Ze (b := 4) (o := 0) (n := 2) (o' := 2) (Zk (p := pt 4 2) (v := Iv r.from_) ?_)))))))
  refine Zc1 (p := slv 1 0 k.items.length k.items.length) (vl := none) (vh := some (Iv r.from_)) (v := slv 1 0 r.from_.toNat k.items.length) rfl rfl rfl rfl rfl (Zf0 (h := r.from_.toNat) rfl rfl (by omega) (by omega) rfl) ?_
  refine Ze (b := 4) (o := 0) (n := 113) (o' := 113) (Zk (p := pt 4 113) (v := slv 3 0 p q) ?_)
  have hl4 : (k.items.take r.from_.toNat ++ r.items).length = r.from_.toNat + p := by have := hp; first | (rw [List.length_append]; omega) | (rw [List.length_append, List.length_take]; omega) | (simp; omega) | simp
  refine Zhu (p := slv 1 0 r.from_.toNat k.items.length) (q := slv 3 0 p q) (v := slv 1 0 ((k.items.take r.from_.toNat ++ r.items).length) ((k.items.take r.from_.toNat ++ r.items).length)) (b := 1) (blk := rwB Zi (k.items.take r.from_.toNat ++ r.items)) (H' := [mxB 4 ([Iv r.epoch, Iv r.epoch, dead, slv 2 0 k.claims.length k.claims.length]), rwB Zi (k.items.take r.from_.toNat ++ r.items), rwR Zg k.claims, rwR Zi r.items, Y6 r p q, hole]) rfl rfl rfl (.inl ⟨_, rfl⟩) rfl rfl (Zt4 Zi (by_ := 216) (k := p) (n' := ((k.items.take r.from_.toNat ++ r.items).length)) (ms := r.items) (fun _ => rfl) rfl rfl (Zl4 Zi rfl rfl (by have := hp; omega)) rfl rfl (by omega) (by omega) (by decide) (by omega)) rfl (by kernel_rfl) ?_
  refine Zav (p := pt 0 0) (v := pt 0 0) (Ze (b := 0) (o := 0) (n := 0) (o' := 0) (Ze (b := 0) (o := 0) (n := 2) (o' := 2) (Zz (p := pt 0 2) (v := slv 1 0 ((k.items.take r.from_.toNat ++ r.items).length) ((k.items.take r.from_.toNat ++ r.items).length)) (b := 0) (blk := mxB 4 ([Iv r.epoch, Iv r.epoch, slv 1 0 ((k.items.take r.from_.toNat ++ r.items).length) ((k.items.take r.from_.toNat ++ r.items).length), slv 2 0 k.claims.length k.claims.length])) (H' := [mxB 4 ([Iv r.epoch, Iv r.epoch, slv 1 0 ((k.items.take r.from_.toNat ++ r.items).length) ((k.items.take r.from_.toNat ++ r.items).length), slv 2 0 k.claims.length k.claims.length]), rwB Zi (k.items.take r.from_.toNat ++ r.items), rwR Zg k.claims, rwR Zi r.items, Y6 r p q, hole]) ?_)))
  refine Zcn (Za6 [[], [], [1], [1, 2], [1, 2, 3], [1, 2, 3, 4], [], [6], [1, 2, 3, 4, 5, 6, 7], [], [9], [1, 2, 3, 4, 5, 6, 7, 8, 9, 10], [0, 1, 2, 3, 4, 5, 6, 7, 8, 9, 10, 11], [0, 1, 2, 3, 4, 5, 6, 7, 8, 9, 10, 11, 12], [0, 1, 2, 3, 4, 5, 6, 7, 8, 9, 10, 11, 12, 13], [0, 1, 2, 3, 4, 5, 6, 7, 8, 9, 10, 11, 12, 13, 14]] (by kernel_rfl) (by kernel_rfl)) ?_
  refine Z1 (Zf (Zj (Zj (Zl (Zb (pt 0 0) (Zav (p := pt 0 0) (v := pt 0 0) (Ze (b := 0) (o := 0) (n := 0) (o' := 0) (Zk (p := pt 0 0) (v := mxV ([Iv r.epoch, Iv r.epoch, slv 1 0 ((k.items.take r.from_.toNat ++ r.items).length) ((k.items.take r.from_.toNat ++ r.items).length), slv 2 0 k.claims.length k.claims.length])) ?_))))))))
  refine Z7 (e := [some (1, 0), some (2, 0)]) (nid := 0) (Zcp (G := G) (⟨r.epoch, r.epoch, (k.items.take r.from_.toNat ++ r.items), k.claims⟩ : Kept) ((k.items.take r.from_.toNat ++ r.items).length) ((k.items.take r.from_.toNat ++ r.items).length) k.claims.length k.claims.length rfl rfl (by omega) (by omega) (by omega) (by omega)) (vals := [mxV ([Iv r.epoch, Iv r.epoch, slv 1 0 ((k.items.take r.from_.toNat ++ r.items).length) ((k.items.take r.from_.toNat ++ r.items).length), slv 2 0 k.claims.length k.claims.length])]) (v := Iv (Zcd (⟨r.epoch, r.epoch, (k.items.take r.from_.toNat ++ r.items), k.claims⟩ : Kept))) (H' := [mxB 4 ([Iv r.epoch, Iv r.epoch, slv 1 0 ((k.items.take r.from_.toNat ++ r.items).length) ((k.items.take r.from_.toNat ++ r.items).length), slv 2 0 k.claims.length k.claims.length]), rwB Zi (k.items.take r.from_.toNat ++ r.items), rwR Zg k.claims, rwR Zi r.items, Y6 r p q, hole]) rfl rfl rfl rfl rfl rfl rfl ⟨⟨(Zag (by kernel_rfl) ⟨⟨rfl, rfl⟩, ⟨rfl, rfl⟩, ⟨rfl, rfl, rfl, by first | omega | exact Nat.le_refl _, by first | omega | exact Nat.le_refl _⟩, ⟨rfl, rfl, rfl, by first | omega | exact Nat.le_refl _, by first | omega | exact Nat.le_refl _⟩, trivial⟩), trivial⟩, ⟨(Za7 rfl), (Zab rfl), trivial⟩, rfl, rfl, rfl⟩ rfl (by kernel_rfl) ?_
  by_cases h10 : (Zcd (⟨r.epoch, r.epoch, (k.items.take r.from_.toNat ++ r.items), k.claims⟩ : Kept)) ≠ 0
  refine Zn (vx := Iv (Zcd (⟨r.epoch, r.epoch, (k.items.take r.from_.toNat ++ r.items), k.claims⟩ : Kept))) (vy := Iv 0) rfl rfl (.bool true) rfl rfl (Zdd (by omega)) ?_
  refine Zd (Zf (Z5 rfl (Zj (Zl (Zc (Iv 140) (Zd (Zf (Zq (Z2 (Zp ?_))))))))))
  rw [show Zac k r = ((⟨r.epoch, r.epoch, (k.items.take r.from_.toNat ++ r.items), k.claims⟩ : Kept), 140) from by first | exact Zfo (by omega) (by omega) | exact Zfp (by omega) (by omega) | exact Zfq (by omega) (by omega) | exact Zfr (by omega) (by omega) (by omega) | exact (Zeg (by omega) (by omega)).trans (Zdk (Za0 (by omega))) | exact (Zeh (by omega) (by omega) (by omega)).trans (Zdk (Za0 (by omega))) | exact (Zei (by omega) (by omega) (by omega)).trans (Zdk (Za0 (by omega)))]
  exact Zm (v := Iv 140) rfl rfl rfl (by kernel_rfl) rfl
  refine Zn (vx := Iv (Zcd (⟨r.epoch, r.epoch, (k.items.take r.from_.toNat ++ r.items), k.claims⟩ : Kept))) (vy := Iv 0) rfl rfl (.bool false) rfl rfl (Zdc (by omega)) ?_
  refine Zd (Zf (Zw rfl (Z8 (Zf (Zj (Zl (Zc (Iv 0) (Zd (Zf (Zq (Zp ?_)))))))))))
  rw [show Zac k r = ((⟨r.epoch, r.epoch, (k.items.take r.from_.toNat ++ r.items), k.claims⟩ : Kept), 0) from by first | exact (Zeg (by omega) (by omega)).trans (Zin (Zby (by omega))) | exact (Zeh (by omega) (by omega) (by omega)).trans (Zin (Zby (by omega))) | exact (Zei (by omega) (by omega) (by omega)).trans (Zin (Zby (by omega)))]
  exact Zm (v := Iv 0) rfl rfl rfl (by kernel_rfl) rfl
abbrev Y8 (k : Kept) (c : Nat) (d : Nat) : Blk := mxB 4 ([Iv k.epoch, Iv k.log, slv 0 0 k.items.length c, slv 1 0 k.claims.length d])
abbrev Y9 (r : Rec) (p : Nat) (q : Nat) : Blk := mxB 150 ([Iv r.kind, Iv r.epoch, Iv r.from_] ++ (Zs r.item ++ ([slv 2 0 p q] ++ (Zr r.claim))))
abbrev Y10  : Blk := mxB 4 ([Iv 0, Iv 0, .slice none 0 0, .slice none 0 0])
abbrev Y11 (k : Kept) : Blk := mxB 4 ([Iv k.epoch, Iv k.log, slv 6 0 k.items.length k.items.length, slv 7 0 k.claims.length k.claims.length])
abbrev Y12 (k : Kept) : Blk := mxB 4 ([Iv k.epoch, Iv k.log, dead, slv 7 0 k.claims.length k.claims.length])
abbrev Y13 (k : Kept) (r : Rec) : Blk := mxB 4 ([Iv ((Zac k r).1.epoch), Iv ((Zac k r).1.log), slv 6 0 ((Zac k r).1.items.length) ((Zac k r).1.items.length), slv 7 0 k.claims.length k.claims.length])
theorem Zrr (k : Kept) (c d : Nat) (hc : k.items.length ≤ c) (hd : k.claims.length ≤ d) (hb : k.items.length ≤ 100000) (hb2 : k.claims.length ≤ 100000) (r : Rec) (p q : Nat) (hp : r.items.length = p) (hq : p ≤ q) (hpb : p ≤ 100000) (hk3 : r.kind ≤ 3) : Zar Try.prog G 19 [mxV ([Iv k.epoch, Iv k.log, slv 0 0 k.items.length c, slv 1 0 k.claims.length d]), mxV ([Iv r.kind, Iv r.epoch, Iv r.from_] ++ (Zs r.item ++ ([slv 2 0 p q] ++ (Zr r.claim))))] [rwR Zi k.items, rwR Zg k.claims, rwR Zi r.items] (.tuple #[mxV ([Iv ((Zcv k r).1.epoch), Iv ((Zcv k r).1.log), slv 3 0 ((Zcv k r).1.items.length) ((Zcv k r).1.items.length), slv 4 0 ((Zcv k r).1.claims.length) ((Zcv k r).1.claims.length)]), Iv (Zcv k r).2]) [rwR Zi k.items, rwR Zg k.claims, rwR Zi r.items, rwB Zi (Zcv k r).1.items, rwB Zg (Zcv k r).1.claims] := by
  refine Zcu (fn := Try.f19) (nt := 42) rfl rfl rfl rfl ?_
  refine Zbo 8 (H' := [rwR Zi k.items, rwR Zg k.claims, rwR Zi r.items, hole, hole, hole, hole, hole, hole, hole, hole]) rfl ?_
  refine Zj (Zl (Zbx (v := mxV ([Iv k.epoch, Iv k.log, slv 0 0 k.items.length c, slv 1 0 k.claims.length d])) (b := mxB 4 ([Iv k.epoch, Iv k.log, slv 0 0 k.items.length c, slv 1 0 k.claims.length d])) (nid := 3) (H' := [rwR Zi k.items, rwR Zg k.claims, rwR Zi r.items, Y8 k c d, hole, hole, hole, hole, hole, hole, hole]) (Zbx (v := mxV ([Iv r.kind, Iv r.epoch, Iv r.from_] ++ (Zs r.item ++ ([slv 2 0 p q] ++ (Zr r.claim))))) (b := mxB 150 ([Iv r.kind, Iv r.epoch, Iv r.from_] ++ (Zs r.item ++ ([slv 2 0 p q] ++ (Zr r.claim))))) (nid := 4) (H' := [rwR Zi k.items, rwR Zg k.claims, rwR Zi r.items, Y8 k c d, Y9 r p q, hole, hole, hole, hole, hole, hole]) (Zbg (b := mxB 4 ([Iv 0, Iv 0, .slice none 0 0, .slice none 0 0])) (nid := 5) (H' := [rwR Zi k.items, rwR Zg k.claims, rwR Zi r.items, Y8 k c d, Y9 r p q, Y10, hole, hole, hole, hole, hole]) (Zc (Iv 0) (Zd (Zf (Zj (Zbk (Zj (Zl (Zk (p := pt 3 0) (v := mxV ([Iv k.epoch, Iv k.log, slv 0 0 k.items.length c, slv 1 0 k.claims.length d])) ?_))))))))))))
  refine Z7 (e := [some (0, 0), some (1, 0)]) (nid := 0) (Zcp (G := G) k k.items.length c k.claims.length d rfl rfl (by omega) (by omega) (by omega) (by omega)) (vals := [mxV ([Iv k.epoch, Iv k.log, slv 0 0 k.items.length c, slv 1 0 k.claims.length d])]) (v := Iv (Zcd k)) (H' := [rwR Zi k.items, rwR Zg k.claims, rwR Zi r.items, Y8 k c d, Y9 r p q, Y10, hole, hole, hole, hole, hole]) rfl rfl rfl rfl rfl rfl rfl ⟨⟨(Zag (by kernel_rfl) ⟨⟨rfl, rfl⟩, ⟨rfl, rfl⟩, ⟨rfl, rfl, rfl, by first | omega | exact Nat.le_refl _, by first | omega | exact Nat.le_refl _⟩, ⟨rfl, rfl, rfl, by first | omega | exact Nat.le_refl _, by first | omega | exact Nat.le_refl _⟩, trivial⟩), trivial⟩, ⟨(Zab rfl), (Zab rfl), trivial⟩, rfl, rfl, rfl⟩ rfl (by kernel_rfl) ?_
  by_cases h1 : (Zcd k) ≠ 0
  refine Zn (vx := Iv (Zcd k)) (vy := Iv 0) rfl rfl (.bool true) rfl rfl (Zdd (by omega)) ?_
  refine Zc (.bool true) (Zd (Zf (Z5 rfl (Zj (Zl ?_)))))
  refine Zbt (vs := []) (v := mxV ([Iv 0, Iv 0, .slice none 0 0, .slice none 0 0])) rfl rfl rfl (by kernel_rfl) ?_
  refine Zz (p := pt 5 0) (v := mxV ([Iv 0, Iv 0, .slice none 0 0, .slice none 0 0])) (b := 5) (blk := mxB 4 ([Iv 0, Iv 0, .slice none 0 0, .slice none 0 0])) (H' := [rwR Zi k.items, rwR Zg k.claims, rwR Zi r.items, Y8 k c d, Y9 r p q, Y10, hole, hole, hole, hole, hole]) (Zc (Iv 1) (Zd (Zf ?_)))
  refine Zc5 (Zch.nilCell (k := 5) (j := 2) (b := 6) true 110 rfl (by decide) rfl (by show 0 < 4; decide) rfl rfl) ?_
  refine Zc5 (Zch.nilCell (k := 5) (j := 3) (b := 7) true 36 rfl (by decide) rfl (by show 0 < 4; decide) rfl rfl) ?_
  refine Zq (Zad (Z2 (Zp ?_)))
  rw [show Zcv k r = (⟨0, 0, [], []⟩, 1) from Zxw (Za0 (by omega))]
  exact Zbf [0, 1, 2, 6, 7] (v := .tuple #[mxV ([Iv 0, Iv 0, slv 6 0 0 0, slv 7 0 0 0]), Iv 1]) rfl (by kernel_rfl) rfl rfl (by decide) (by simp [Zck, rwB, rwR, Zi, Zg]) ⟨(Zag (by kernel_rfl) ⟨⟨rfl, rfl⟩, ⟨rfl, rfl⟩, ⟨rfl, rfl, rfl, by first | omega | exact Nat.le_refl _ | exact Nat.zero_le _ | (dsimp only; omega), by first | omega | exact Nat.le_refl _ | exact Nat.zero_le _ | (dsimp only; omega)⟩, ⟨rfl, rfl, rfl, by first | omega | exact Nat.le_refl _ | exact Nat.zero_le _ | (dsimp only; omega), by first | omega | exact Nat.le_refl _ | exact Nat.zero_le _ | (dsimp only; omega)⟩, trivial⟩), rfl, trivial⟩
  refine Zn (vx := Iv (Zcd k)) (vy := Iv 0) rfl rfl (.bool false) rfl rfl (Zdc (by omega)) ?_
  refine Zc (.bool false) (Zd (Zf (Zw rfl (Zj (Zl (Zk (p := pt 4 0) (v := mxV ([Iv r.kind, Iv r.epoch, Iv r.from_] ++ (Zs r.item ++ ([slv 2 0 p q] ++ (Zr r.claim))))) ?_))))))
  refine Z7 (e := [some (2, 0)]) (nid := 0) (Zsi (G := G) r p q hp (by omega) (by omega)) (vals := [mxV ([Iv r.kind, Iv r.epoch, Iv r.from_] ++ (Zs r.item ++ ([slv 2 0 p q] ++ (Zr r.claim))))]) (v := .bool (decide (Zbr r))) (H' := [rwR Zi k.items, rwR Zg k.claims, rwR Zi r.items, Y8 k c d, Y9 r p q, Y10, hole, hole, hole, hole, hole]) rfl rfl rfl rfl rfl rfl rfl ⟨⟨(Zag (by kernel_rfl) (Z9 ⟨⟨rfl, rfl⟩, ⟨rfl, rfl⟩, ⟨rfl, rfl⟩, trivial⟩ (Z9 (Zai (by kernel_rfl)) (Z9 ⟨⟨rfl, rfl, rfl, by first | omega | exact Nat.le_refl _, by first | omega | exact Nat.le_refl _⟩, trivial⟩ (Zai (by kernel_rfl)))))), trivial⟩, ⟨(Zab rfl), trivial⟩, rfl, rfl, rfl⟩ rfl (by kernel_rfl) ?_
  rcases Bool.eq_false_or_eq_true (decide (Zbr r)) with h2 | h2
  refine Zhv (vx := .bool (decide (Zbr r))) rfl rfl (.bool false) rfl (Eq.trans Zdx (congrArg (fun b => some (Value.bool !b)) h2)) ?_
  refine Zc (.bool false) (Zd (Zf (Zw rfl (Z8 (Z1 (Zf (Zj ?_)))))))
  refine Zep (by kernel_rfl) ?_
  refine Ze (b := 3) (o := 0) (n := 2) (o' := 2) (Zk (p := pt 3 2) (v := slv 0 0 k.items.length c) ?_)
  refine Z7 (e := [some (0, 0)]) (nid := 6) (Zmn (G := G) k.items k.items.length c rfl (by omega) (by omega)) (vals := [slv 0 0 k.items.length c]) (v := slv 6 0 k.items.length k.items.length) (H' := [rwR Zi k.items, rwR Zg k.claims, rwR Zi r.items, Y8 k c d, Y9 r p q, Y10, rwB Zi k.items, hole, hole, hole, hole]) rfl rfl rfl rfl rfl rfl rfl ⟨⟨⟨rfl, rfl, rfl, by first | omega | exact Nat.le_refl _, by first | omega | exact Nat.le_refl _⟩, trivial⟩, ⟨(Zab rfl), trivial⟩, rfl, rfl, rfl⟩ (by kernel_rfl) (by kernel_rfl) ?_
  refine Ze (b := 3) (o := 0) (n := 3) (o' := 3) (Zk (p := pt 3 3) (v := slv 1 0 k.claims.length d) ?_)
  refine Z7 (e := [some (1, 0)]) (nid := 7) (Zh3 (G := G) k.claims k.claims.length d rfl (by omega) (by omega)) (vals := [slv 1 0 k.claims.length d]) (v := slv 7 0 k.claims.length k.claims.length) (H' := [rwR Zi k.items, rwR Zg k.claims, rwR Zi r.items, Y8 k c d, Y9 r p q, Y10, rwB Zi k.items, rwB Zg k.claims, hole, hole, hole]) rfl rfl rfl rfl rfl rfl rfl ⟨⟨⟨rfl, rfl, rfl, by first | omega | exact Nat.le_refl _, by first | omega | exact Nat.le_refl _⟩, trivial⟩, ⟨(Zab rfl), trivial⟩, rfl, rfl, rfl⟩ (by kernel_rfl) (by kernel_rfl) ?_
  refine Ze (b := 3) (o := 0) (n := 2) (o' := 2) (Zz (p := pt 3 2) (v := slv 6 0 k.items.length k.items.length) (b := 3) (blk := mxB 4 ([Iv k.epoch, Iv k.log, slv 6 0 k.items.length k.items.length, slv 1 0 k.claims.length d])) (H' := [rwR Zi k.items, rwR Zg k.claims, rwR Zi r.items, mxB 4 ([Iv k.epoch, Iv k.log, slv 6 0 k.items.length k.items.length, slv 1 0 k.claims.length d]), Y9 r p q, Y10, rwB Zi k.items, rwB Zg k.claims, hole, hole, hole]) (Ze (b := 3) (o := 0) (n := 3) (o' := 3) (Zz (p := pt 3 3) (v := slv 7 0 k.claims.length k.claims.length) (b := 3) (blk := mxB 4 ([Iv k.epoch, Iv k.log, slv 6 0 k.items.length k.items.length, slv 7 0 k.claims.length k.claims.length])) (H' := [rwR Zi k.items, rwR Zg k.claims, rwR Zi r.items, Y11 k, Y9 r p q, Y10, rwB Zi k.items, rwB Zg k.claims, hole, hole, hole]) ?_)))
  refine Zcn (Za6 [[], [0], [0, 1], [], [3], [0, 1, 2, 3, 4], [0, 1, 2, 3, 4], [0, 1, 2, 3, 4, 5, 6], [0, 1, 2, 3, 4, 5, 6, 7], [0, 1, 2, 3, 4, 5, 6, 7, 8]] (by kernel_rfl) (by kernel_rfl)) ?_
  refine Zf (Zj (Zl (Zk (p := pt 3 0) (v := mxV ([Iv k.epoch, Iv k.log, slv 6 0 k.items.length k.items.length, slv 7 0 k.claims.length k.claims.length])) ?_)))
  refine Zbt (vs := [(0, mxV ([Iv k.epoch, Iv k.log, slv 6 0 k.items.length k.items.length, slv 7 0 k.claims.length k.claims.length]))]) (v := mxV ([Iv k.epoch, Iv k.log, slv 6 0 k.items.length k.items.length, slv 7 0 k.claims.length k.claims.length])) rfl rfl rfl (by kernel_rfl) ?_
  refine Zbx (v := mxV ([Iv k.epoch, Iv k.log, slv 6 0 k.items.length k.items.length, slv 7 0 k.claims.length k.claims.length])) (b := mxB 4 ([Iv k.epoch, Iv k.log, slv 6 0 k.items.length k.items.length, slv 7 0 k.claims.length k.claims.length])) (nid := 8) (H' := [rwR Zi k.items, rwR Zg k.claims, rwR Zi r.items, Y11 k, Y9 r p q, Y10, rwB Zi k.items, rwB Zg k.claims, Y11 k, hole, hole]) (Zc (pt 8 0) (Zd (Zf (Zj (Zl (Zc (.func (.func 39) #[] #[]) (Zd (Zf (Zj (Zj (Zl (Zb (.func (.func 39) #[] #[]) (Zb (pt 8 0) (Zk (p := pt 4 0) (v := mxV ([Iv r.kind, Iv r.epoch, Iv r.from_] ++ (Zs r.item ++ ([slv 2 0 p q] ++ (Zr r.claim))))) ?_))))))))))))))
  have hmy4 := Zia (of_decide_eq_true (by assumption : decide (Zbr r) = true))
  refine Zq4 (e := [some (8, 0), some (6, 0), some (7, 0), some (2, 0)]) (nid := 0) (Zwe (G := G) k r p q hp (by omega) (by omega) (by omega) (by omega) hmy4.1.1 (by omega) hmy4.2) (vals := [pt 8 0, mxV ([Iv r.kind, Iv r.epoch, Iv r.from_] ++ (Zs r.item ++ ([slv 2 0 p q] ++ (Zr r.claim))))]) (v := Iv ((Zac k r).2)) (H' := [rwR Zi k.items, rwR Zg k.claims, rwR Zi r.items, Y12 k, Y9 r p q, Y10, rwB Zi ((Zac k r).1.items), rwB Zg k.claims, Y13 k r, hole, hole]) rfl rfl rfl rfl rfl rfl ⟨⟨⟨rfl, rfl⟩, (Zag (by kernel_rfl) (Z9 ⟨⟨rfl, rfl⟩, ⟨rfl, rfl⟩, ⟨rfl, rfl⟩, trivial⟩ (Z9 (Zai (by kernel_rfl)) (Z9 ⟨⟨rfl, rfl, rfl, by first | omega | exact Nat.le_refl _, by first | omega | exact Nat.le_refl _⟩, trivial⟩ (Zai (by kernel_rfl)))))), trivial⟩, ⟨(Zhk (B := mxB 4 ([Iv k.epoch, Iv k.log, slv 6 0 k.items.length k.items.length, slv 7 0 k.claims.length k.claims.length])) (by kernel_rfl) rfl rfl (by kernel_rfl)), (Zhk rfl rfl rfl rfl), (Za7 rfl), (Zab rfl), trivial⟩, rfl, rfl, rfl, Nat.le_refl _⟩ rfl rfl (by kernel_rfl) ?_
  refine Zc (Iv ((Zac k r).2)) (Zd (Zf (Zj (Zl (Zb (Iv ((Zac k r).2)) ?_)))))
  by_cases h3 : ((Zac k r).2) ≠ 0
  refine Zn (vx := Iv ((Zac k r).2)) (vy := Iv 0) rfl rfl (.bool true) rfl rfl (Zdd (by omega)) ?_
  refine Zd (Zf (Z5 rfl (Zj (Zl ?_))))
  refine Zbt (vs := []) (v := mxV ([Iv 0, Iv 0, .slice none 0 0, .slice none 0 0])) rfl rfl rfl (by kernel_rfl) ?_
  refine Zb (Iv ((Zac k r).2)) (Zz (p := pt 5 0) (v := mxV ([Iv 0, Iv 0, .slice none 0 0, .slice none 0 0])) (b := 5) (blk := mxB 4 ([Iv 0, Iv 0, .slice none 0 0, .slice none 0 0])) (H' := [rwR Zi k.items, rwR Zg k.claims, rwR Zi r.items, Y12 k, Y9 r p q, Y10, rwB Zi ((Zac k r).1.items), rwB Zg k.claims, Y13 k r, hole, hole]) (Zc (Iv ((Zac k r).2)) (Zd (Zf ?_))))
  refine Zc5 (Zch.nilCell (k := 5) (j := 2) (b := 9) true 110 rfl (by decide) rfl (by show 0 < 4; decide) rfl rfl) ?_
  refine Zc5 (Zch.nilCell (k := 5) (j := 3) (b := 10) true 36 rfl (by decide) rfl (by show 0 < 4; decide) rfl rfl) ?_
  refine Zq (Z2 (Zp ?_))
  rw [show Zcv k r = (⟨0, 0, [], []⟩, (Zac k r).2) from Zxy (Zby (by omega)) (of_decide_eq_true (by assumption)) (by omega)]
  exact Zbf [0, 1, 2, 9, 10] (v := .tuple #[mxV ([Iv 0, Iv 0, slv 9 0 0 0, slv 10 0 0 0]), Iv ((Zac k r).2)]) rfl (by kernel_rfl) rfl rfl (by decide) (by simp [Zck, rwB, rwR, Zi, Zg]) ⟨(Zag (by kernel_rfl) ⟨⟨rfl, rfl⟩, ⟨rfl, rfl⟩, ⟨rfl, rfl, rfl, by first | omega | exact Nat.le_refl _ | exact Nat.zero_le _ | (dsimp only; omega), by first | omega | exact Nat.le_refl _ | exact Nat.zero_le _ | (dsimp only; omega)⟩, ⟨rfl, rfl, rfl, by first | omega | exact Nat.le_refl _ | exact Nat.zero_le _ | (dsimp only; omega), by first | omega | exact Nat.le_refl _ | exact Nat.zero_le _ | (dsimp only; omega)⟩, trivial⟩), rfl, trivial⟩
  refine Zn (vx := Iv ((Zac k r).2)) (vy := Iv 0) rfl rfl (.bool false) rfl rfl (Zdc (by omega)) ?_
  refine Zd (Zf (Zw rfl (Z8 (Zf (Zj (Zl (Zb (pt 8 0) (Zav (p := pt 8 0) (v := pt 8 0) (Ze (b := 8) (o := 0) (n := 0) (o' := 0) (Zk (p := pt 8 0) (v := mxV ([Iv ((Zac k r).1.epoch), Iv ((Zac k r).1.log), slv 6 0 ((Zac k r).1.items.length) ((Zac k r).1.items.length), slv 7 0 k.claims.length k.claims.length])) (Zz (p := pt 5 0) (v := mxV ([Iv ((Zac k r).1.epoch), Iv ((Zac k r).1.log), slv 6 0 ((Zac k r).1.items.length) ((Zac k r).1.items.length), slv 7 0 k.claims.length k.claims.length])) (b := 5) (blk := mxB 4 ([Iv ((Zac k r).1.epoch), Iv ((Zac k r).1.log), slv 6 0 ((Zac k r).1.items.length) ((Zac k r).1.items.length), slv 7 0 k.claims.length k.claims.length])) (H' := [rwR Zi k.items, rwR Zg k.claims, rwR Zi r.items, Y12 k, Y9 r p q, Y13 k r, rwB Zi ((Zac k r).1.items), rwB Zg k.claims, Y13 k r, hole, hole]) (Zc (Iv 0) (Zd (Zf (Zq (Zp ?_))))))))))))))))
  rw [show Zcv k r = (⟨(Zac k r).1.epoch, (Zac k r).1.log, (Zac k r).1.items, k.claims⟩, 0) from Zxz (Zby (by omega)) (of_decide_eq_true (by assumption)) (by omega)]
  exact Zbf [0, 1, 2, 6, 7] (v := .tuple #[mxV ([Iv ((Zac k r).1.epoch), Iv ((Zac k r).1.log), slv 6 0 ((Zac k r).1.items.length) ((Zac k r).1.items.length), slv 7 0 k.claims.length k.claims.length]), Iv 0]) rfl (by kernel_rfl) rfl rfl (by decide) (by simp [Zck, rwB, rwR, Zi, Zg]) ⟨(Zag (by kernel_rfl) ⟨⟨rfl, rfl⟩, ⟨rfl, rfl⟩, ⟨rfl, rfl, rfl, by first | omega | exact Nat.le_refl _ | exact Nat.zero_le _ | (dsimp only; omega), by first | omega | exact Nat.le_refl _ | exact Nat.zero_le _ | (dsimp only; omega)⟩, ⟨rfl, rfl, rfl, by first | omega | exact Nat.le_refl _ | exact Nat.zero_le _ | (dsimp only; omega), by first | omega | exact Nat.le_refl _ | exact Nat.zero_le _ | (dsimp only; omega)⟩, trivial⟩), rfl, trivial⟩
  refine Zhv (vx := .bool (decide (Zbr r))) rfl rfl (.bool true) rfl (Eq.trans Zdx (congrArg (fun b => some (Value.bool !b)) h2)) ?_
  refine Zc (.bool true) (Zd (Zf (Z5 rfl (Zj (Zl ?_)))))
  refine Zbt (vs := []) (v := mxV ([Iv 0, Iv 0, .slice none 0 0, .slice none 0 0])) rfl rfl rfl (by kernel_rfl) ?_
  refine Zz (p := pt 5 0) (v := mxV ([Iv 0, Iv 0, .slice none 0 0, .slice none 0 0])) (b := 5) (blk := mxB 4 ([Iv 0, Iv 0, .slice none 0 0, .slice none 0 0])) (H' := [rwR Zi k.items, rwR Zg k.claims, rwR Zi r.items, Y8 k c d, Y9 r p q, Y10, hole, hole, hole, hole, hole]) (Zc (Iv 140) (Zd (Zf ?_)))
  refine Zc5 (Zch.nilCell (k := 5) (j := 2) (b := 6) true 110 rfl (by decide) rfl (by show 0 < 4; decide) rfl rfl) ?_
  refine Zc5 (Zch.nilCell (k := 5) (j := 3) (b := 7) true 36 rfl (by decide) rfl (by show 0 < 4; decide) rfl rfl) ?_
  refine Zq (Zad (Z2 (Zp ?_)))
  rw [show Zcv k r = (⟨0, 0, [], []⟩, 140) from Zxx (Zby (by omega)) (of_decide_eq_false (by assumption))]
  exact Zbf [0, 1, 2, 6, 7] (v := .tuple #[mxV ([Iv 0, Iv 0, slv 6 0 0 0, slv 7 0 0 0]), Iv 140]) rfl (by kernel_rfl) rfl rfl (by decide) (by simp [Zck, rwB, rwR, Zi, Zg]) ⟨(Zag (by kernel_rfl) ⟨⟨rfl, rfl⟩, ⟨rfl, rfl⟩, ⟨rfl, rfl, rfl, by first | omega | exact Nat.le_refl _ | exact Nat.zero_le _ | (dsimp only; omega), by first | omega | exact Nat.le_refl _ | exact Nat.zero_le _ | (dsimp only; omega)⟩, ⟨rfl, rfl, rfl, by first | omega | exact Nat.le_refl _ | exact Nat.zero_le _ | (dsimp only; omega), by first | omega | exact Nat.le_refl _ | exact Nat.zero_le _ | (dsimp only; omega)⟩, trivial⟩), rfl, trivial⟩
end Go.Flat
