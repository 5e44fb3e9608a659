/- Walks. -/
import Derived.Test.YtoafdomlefoenaaN5
import Derived.Test.YtoafdomlefoenaaN7
set_option linter.unusedVariables false
set_option linter.unusedSimpArgs false
set_option maxRecDepth 20000
namespace Go.Flat
open Go.Proofs
variable {G : Glob}
theorem Zos (l : List Claim) (x : Claim) : (Zad l x).1.length ≤ l.length + 1 := by
 unfold Zad
 split
 ·split
  ·split
   ·exact Nat.le_succ _
   ·exact Nat.zero_le _
  ·show (l.take _ ++ x :: l.drop _).length ≤ _; have := Zjw l x; simp; omega
 ·exact Nat.zero_le _
theorem Zrf (l : List Claim) (x : Claim) : 0 ≤ (Zad l x).2 := by
 unfold Zad
 split
 ·split
  ·split
   ·show (0 : Int) ≤ 0; decide
   ·show (0 : Int) ≤ 111; decide
  ·show (0 : Int) ≤ 0; decide
 ·show (0 : Int) ≤ 110; decide
def Zdu (k : Kept) (r : Rec) : Kept × Int := if (Zad k.claims r.claim).2 = 0 then Zgn (⟨k.epoch, k.log, k.items, (Zad k.claims r.claim).1⟩ : Kept) else (k, 140)
theorem Zip {k : Kept} {r : Rec} (h : ¬ (Zad k.claims r.claim).2 = 0) : Zdu k r = (k, 140) := if_neg h
theorem Zhg {k : Kept} {r : Rec} (h : (Zad k.claims r.claim).2 = 0) : Zdu k r = Zgn (⟨k.epoch, k.log, k.items, (Zad k.claims r.claim).1⟩ : Kept) := if_pos h
def Zc4 (k : Kept) (r : Rec) : Kept × Int := if r.kind = 4 then Zdu k r else Zaf k r
def Zax (k : Kept) (r : Rec) : Kept × Int :=
  if Zbx k then (if Zbs r then (if (Zc4 k r).2 = 0 then ((Zc4 k r).1, 0) else (⟨0, 0, [], []⟩, (Zc4 k r).2)) else (⟨0, 0, [], []⟩, 140)) else (⟨0, 0, [], []⟩, 1)
section
variable {k : Kept} {r : Rec}
theorem Zgg (h : r.kind = 4) : Zc4 k r = Zdu k r := if_pos h
theorem Zs3 (h : ¬ r.kind = 4) : Zc4 k r = Zaf k r := if_neg h
theorem Zsk (h : ¬ Zbx k) : Zax k r = (⟨0, 0, [], []⟩, 1) := if_neg h
theorem Zog (h : Zbx k) (h1 : ¬ Zbs r) : Zax k r = (⟨0, 0, [], []⟩, 140) := by unfold Zax; rw [if_pos h, if_neg h1]
theorem Zsl (h : Zbx k) (h1 : Zbs r) (h2 : ¬ (Zc4 k r).2 = 0) : Zax k r = (⟨0, 0, [], []⟩, (Zc4 k r).2) := by unfold Zax; rw [if_pos h, if_pos h1, if_neg h2]
theorem Zoh (h : Zbx k) (h1 : Zbs r) (h2 : (Zc4 k r).2 = 0) : Zax k r = ((Zc4 k r).1, 0) := by unfold Zax; rw [if_pos h, if_pos h1, if_pos h2]
theorem Zu4 (h : r.kind ≤ 3) : Zax k r = Zcw k r := by
 unfold Zax Zcw; rw [Zs3 (by omega)]
theorem Zt9 (hq : (Zad k.claims r.claim).2 = 0) : (Zdu k r).1 = (⟨k.epoch, k.log, k.items, (Zad k.claims r.claim).1⟩ : Kept) := by rw [Zhg hq]; rfl
theorem Zu3 (h : Zbx k) (h1 : Zbs r) (hk : r.kind = 4) (hq : (Zad k.claims r.claim).2 = 0) (h2 : (Zdu k r).2 = 0) : Zax k r = ((⟨k.epoch, k.log, k.items, (Zad k.claims r.claim).1⟩ : Kept), 0) := by rw [Zoh h h1 (by rw [Zgg hk]; exact h2), Zgg hk, Zt9 hq]
theorem Zlr (h : Zbx k) (h1 : Zbs r) (hk : r.kind = 4) (h2 : ¬ (Zdu k r).2 = 0) : Zax k r = (⟨0, 0, [], []⟩, (Zdu k r).2) := by rw [Zsl h h1 (by rw [Zgg hk]; exact h2), Zgg hk]
theorem Zvv (h : Zbs r) (h4 : 4 ≤ r.kind) : r.kind = 4 := by have := (Zkd h).1; omega
end
abbrev Y26 (k : Kept) : Blk := mxB 4 ([Iv k.epoch, Iv k.log, slv 1 0 k.items.length k.items.length, slv 2 0 k.claims.length k.claims.length])
theorem Zw4 (k : Kept) (r : Rec) (p q : Nat) (hp : r.items.length = p) (hq : p ≤ q) (hpb : p ≤ 100000) (hb : k.items.length ≤ 100000) (hb2 : k.claims.length ≤ 100000) (hk4 : r.kind = 4) (hq : 1 ≤ (Zad k.claims r.claim).2) : Zas Try.prog G 39 [pt 0 0, mxV ([Iv r.kind, Iv r.epoch, Iv r.from_] ++ (Zt r.item ++ ([slv 3 0 p q] ++ (Zo r.claim))))] [mxB 4 ([Iv k.epoch, Iv k.log, slv 1 0 k.items.length k.items.length, slv 2 0 k.claims.length k.claims.length]), rwR Zk k.items, rwR Zh k.claims, rwR Zk r.items] (Iv 140) [mxB 4 ([Iv k.epoch, Iv k.log, slv 1 0 k.items.length k.items.length, slv 2 0 k.claims.length k.claims.length]), rwR Zk k.items, rwR Zh k.claims, rwR Zk r.items] := by
  refine Zcv (fn := Try.f39) (nt := 134) rfl rfl rfl rfl ?_
  refine Zbq 2 (H' := [Y26 k, rwR Zk k.items, rwR Zh k.claims, rwR Zk r.items, hole, hole]) rfl ?_
  refine Zj (Zl (Zbw (v := mxV ([Iv r.kind, Iv r.epoch, Iv r.from_] ++ (Zt r.item ++ ([slv 3 0 p q] ++ (Zo r.claim))))) (b := mxB 150 ([Iv r.kind, Iv r.epoch, Iv r.from_] ++ (Zt r.item ++ ([slv 3 0 p q] ++ (Zo r.claim))))) (nid := 5) (H' := [Y26 k, rwR Zk k.items, rwR Zh k.claims, rwR Zk r.items, hole, mxB 150 ([Iv r.kind, Iv r.epoch, Iv r.from_] ++ (Zt r.item ++ ([slv 3 0 p q] ++ (Zo r.claim))))]) (Zc (Iv 0) (Ze (Zf (Zj (Zj (Zl (Zd (b := 5) (o := 0) (n := 0) (o' := 0) (Zi (p := pt 5 0) (v := Iv r.kind) (Ze (Zf (Zbm (Zj (Zl ?_)))))))))))))))
  refine Zn (vx := Iv r.kind) (vy := Iv 1) rfl rfl (.bool false) rfl rfl (Zbb (by omega)) ?_
  refine Zc (.bool false) (Ze (Zf (Zw rfl (Zj (Zl ?_)))))
  refine Zn (vx := Iv r.kind) (vy := Iv 2) rfl rfl (.bool false) rfl rfl (Zbb (by omega)) ?_
  refine Zc (.bool false) (Ze (Zf (Zw rfl (Zj (Zl ?_)))))
  refine Zn (vx := Iv r.kind) (vy := Iv 3) rfl rfl (.bool false) rfl rfl (Zbb (by omega)) ?_
  refine Zc (.bool false) (Ze (Zf (Zw rfl (Zj (Zl ?_)))))
  refine Zn (vx := Iv r.kind) (vy := Iv 4) rfl rfl (.bool true) rfl rfl (Zav (by omega)) ?_
  refine Zc (.bool true) (Ze (Zf (Z8 rfl (Zj ?_))))
  refine Zeu (by kernel_rfl) ?_
  refine Zb (pt 0 0) (Zau (p := pt 0 0) (v := pt 0 0) (Zd (b := 0) (o := 0) (n := 0) (o' := 0) (Zd (b := 0) (o := 0) (n := 3) (o' := 3) (Zi (p := pt 0 3) (v := slv 2 0 k.claims.length k.claims.length) (Zd (b := 5) (o := 0) (n := 114) (o' := 114) (Zi (p := pt 5 114) (v := Zv r.claim) ?_))))))
  have hrl2 := Zos k.claims r.claim
  refine Z2 (e := [some (2, 0)]) (nid := 4) (Zmy (G := G) k.claims k.claims.length k.claims.length rfl (by omega) (by omega) r.claim) (vals := [slv 2 0 k.claims.length k.claims.length, Zv r.claim]) (v := .tuple #[slv 4 0 ((Zad k.claims r.claim).1.length) ((Zad k.claims r.claim).1.length), Iv ((Zad k.claims r.claim).2)]) (H' := [Y26 k, rwR Zk k.items, rwR Zh k.claims, rwR Zk r.items, rwB Zh ((Zad k.claims r.claim).1), mxB 150 ([Iv r.kind, Iv r.epoch, Iv r.from_] ++ (Zt r.item ++ ([slv 3 0 p q] ++ (Zo r.claim))))]) rfl rfl rfl rfl rfl rfl rfl ⟨⟨⟨rfl, rfl, rfl, by first | omega | exact Nat.le_refl _, by first | omega | exact Nat.le_refl _⟩, (Zhp (by kernel_rfl) rfl), trivial⟩, ⟨(Zae rfl), trivial⟩, rfl, rfl, rfl⟩ (by kernel_rfl) (by kernel_rfl) ?_
  refine Zb (.tuple #[slv 4 0 ((Zad k.claims r.claim).1.length) ((Zad k.claims r.claim).1.length), Iv ((Zad k.claims r.claim).2)]) (Zak (vs := #[slv 4 0 ((Zad k.claims r.claim).1.length) ((Zad k.claims r.claim).1.length), Iv ((Zad k.claims r.claim).2)]) (v := slv 4 0 ((Zad k.claims r.claim).1.length) ((Zad k.claims r.claim).1.length)) (Zak (vs := #[slv 4 0 ((Zad k.claims r.claim).1.length) ((Zad k.claims r.claim).1.length), Iv ((Zad k.claims r.claim).2)]) (v := Iv ((Zad k.claims r.claim).2)) (Zc (slv 4 0 ((Zad k.claims r.claim).1.length) ((Zad k.claims r.claim).1.length)) (Zc (Iv ((Zad k.claims r.claim).2)) ?_))))
  refine Zco (Za8 [[], [0], [0, 1], [0, 1, 2], [0, 1, 2, 3], [], [5], [0, 1, 2, 3, 4, 5, 6], [0, 1, 2, 3, 4, 5, 6, 7], [0, 1, 2, 3, 4, 5, 6, 7, 8], [0, 1, 2, 3, 4, 5, 6, 7, 8], [0, 1, 2, 3, 4, 5, 6, 7, 8, 9], [0, 1, 2, 3, 4, 5, 6, 7, 8, 9, 10, 11]] (by kernel_rfl) (by kernel_rfl)) ?_
  refine Zf (Zj (Zj (Zl (Zb (Iv ((Zad k.claims r.claim).2)) ?_))))
  refine Zn (vx := Iv ((Zad k.claims r.claim).2)) (vy := Iv 0) rfl rfl (.bool true) rfl rfl (Zc3 (by omega)) ?_
  refine Ze (Zf (Z8 rfl (Zj (Zl (Zc (Iv 140) (Ze (Zf (Zq (Z4 (Zag (Z4 (Zp ?_))))))))))))
  exact Zm (v := Iv 140) rfl rfl rfl (by kernel_rfl) rfl
abbrev Y27 (k : Kept) : Blk := mxB 4 ([Iv k.epoch, Iv k.log, slv 1 0 k.items.length k.items.length, slv 2 0 k.claims.length k.claims.length])
abbrev Y28 (r : Rec) (p : Nat) (q : Nat) : Blk := mxB 150 ([Iv r.kind, Iv r.epoch, Iv r.from_] ++ (Zt r.item ++ ([slv 3 0 p q] ++ (Zo r.claim))))
theorem Zw5 (k : Kept) (r : Rec) (p q : Nat) (hp : r.items.length = p) (hq : p ≤ q) (hpb : p ≤ 100000) (hb : k.items.length ≤ 100000) (hb2 : k.claims.length ≤ 100000) (hk4 : r.kind = 4) (hq : (Zad k.claims r.claim).2 = 0) : Zas Try.prog G 39 [pt 0 0, mxV ([Iv r.kind, Iv r.epoch, Iv r.from_] ++ (Zt r.item ++ ([slv 3 0 p q] ++ (Zo r.claim))))] [mxB 4 ([Iv k.epoch, Iv k.log, slv 1 0 k.items.length k.items.length, slv 2 0 k.claims.length k.claims.length]), rwR Zk k.items, rwR Zh k.claims, rwR Zk r.items] (Iv (Zdu k r).2) [mxB 4 ([Iv k.epoch, Iv k.log, slv 1 0 k.items.length k.items.length, slv 4 0 ((Zad k.claims r.claim).1.length) ((Zad k.claims r.claim).1.length)]), rwR Zk k.items, rwR Zh k.claims, rwR Zk r.items, rwB Zh (Zad k.claims r.claim).1] := by
  refine Zcv (fn := Try.f39) (nt := 134) rfl rfl rfl rfl ?_
  refine Zbq 2 (H' := [Y27 k, rwR Zk k.items, rwR Zh k.claims, rwR Zk r.items, hole, hole]) rfl ?_
  refine Zj (Zl (Zbw (v := mxV ([Iv r.kind, Iv r.epoch, Iv r.from_] ++ (Zt r.item ++ ([slv 3 0 p q] ++ (Zo r.claim))))) (b := mxB 150 ([Iv r.kind, Iv r.epoch, Iv r.from_] ++ (Zt r.item ++ ([slv 3 0 p q] ++ (Zo r.claim))))) (nid := 5) (H' := [Y27 k, rwR Zk k.items, rwR Zh k.claims, rwR Zk r.items, hole, Y28 r p q]) (Zc (Iv 0) (Ze (Zf (Zj (Zj (Zl (Zd (b := 5) (o := 0) (n := 0) (o' := 0) (Zi (p := pt 5 0) (v := Iv r.kind) (Ze (Zf (Zbm (Zj (Zl ?_)))))))))))))))
  refine Zn (vx := Iv r.kind) (vy := Iv 1) rfl rfl (.bool false) rfl rfl (Zbb (by omega)) ?_
  refine Zc (.bool false) (Ze (Zf (Zw rfl (Zj (Zl ?_)))))
  refine Zn (vx := Iv r.kind) (vy := Iv 2) rfl rfl (.bool false) rfl rfl (Zbb (by omega)) ?_
  refine Zc (.bool false) (Ze (Zf (Zw rfl (Zj (Zl ?_)))))
  refine Zn (vx := Iv r.kind) (vy := Iv 3) rfl rfl (.bool false) rfl rfl (Zbb (by omega)) ?_
  refine Zc (.bool false) (Ze (Zf (Zw rfl (Zj (Zl ?_)))))
  refine Zn (vx := Iv r.kind) (vy := Iv 4) rfl rfl (.bool true) rfl rfl (Zav (by omega)) ?_
  refine Zc (.bool true) (Ze (Zf (Z8 rfl (Zj ?_))))
  refine Zeu (by kernel_rfl) ?_
  refine Zb (pt 0 0) (Zau (p := pt 0 0) (v := pt 0 0) (Zd (b := 0) (o := 0) (n := 0) (o' := 0) (Zd (b := 0) (o := 0) (n := 3) (o' := 3) (Zi (p := pt 0 3) (v := slv 2 0 k.claims.length k.claims.length) (Zd (b := 5) (o := 0) (n := 114) (o' := 114) (Zi (p := pt 5 114) (v := Zv r.claim) ?_))))))
  have hrl2 := Zos k.claims r.claim
  refine Z2 (e := [some (2, 0)]) (nid := 4) (Zmy (G := G) k.claims k.claims.length k.claims.length rfl (by omega) (by omega) r.claim) (vals := [slv 2 0 k.claims.length k.claims.length, Zv r.claim]) (v := .tuple #[slv 4 0 ((Zad k.claims r.claim).1.length) ((Zad k.claims r.claim).1.length), Iv ((Zad k.claims r.claim).2)]) (H' := [Y27 k, rwR Zk k.items, rwR Zh k.claims, rwR Zk r.items, rwB Zh ((Zad k.claims r.claim).1), Y28 r p q]) rfl rfl rfl rfl rfl rfl rfl ⟨⟨⟨rfl, rfl, rfl, by first | omega | exact Nat.le_refl _, by first | omega | exact Nat.le_refl _⟩, (Zhp (by kernel_rfl) rfl), trivial⟩, ⟨(Zae rfl), trivial⟩, rfl, rfl, rfl⟩ (by kernel_rfl) (by kernel_rfl) ?_
  refine Zb (.tuple #[slv 4 0 ((Zad k.claims r.claim).1.length) ((Zad k.claims r.claim).1.length), Iv ((Zad k.claims r.claim).2)]) (Zak (vs := #[slv 4 0 ((Zad k.claims r.claim).1.length) ((Zad k.claims r.claim).1.length), Iv ((Zad k.claims r.claim).2)]) (v := slv 4 0 ((Zad k.claims r.claim).1.length) ((Zad k.claims r.claim).1.length)) (Zak (vs := #[slv 4 0 ((Zad k.claims r.claim).1.length) ((Zad k.claims r.claim).1.length), Iv ((Zad k.claims r.claim).2)]) (v := Iv ((Zad k.claims r.claim).2)) (Zc (slv 4 0 ((Zad k.claims r.claim).1.length) ((Zad k.claims r.claim).1.length)) (Zc (Iv ((Zad k.claims r.claim).2)) ?_))))
  refine Zco (Za8 [[], [0], [0, 1], [0, 1, 2], [0, 1, 2, 3], [], [5], [0, 1, 2, 3, 4, 5, 6], [0, 1, 2, 3, 4, 5, 6, 7], [0, 1, 2, 3, 4, 5, 6, 7, 8], [0, 1, 2, 3, 4, 5, 6, 7, 8], [0, 1, 2, 3, 4, 5, 6, 7, 8, 9], [0, 1, 2, 3, 4, 5, 6, 7, 8, 9, 10, 11]] (by kernel_rfl) (by kernel_rfl)) ?_
  refine Zf (Zj (Zj (Zl (Zb (Iv ((Zad k.claims r.claim).2)) ?_))))
  refine Zn (vx := Iv ((Zad k.claims r.claim).2)) (vy := Iv 0) rfl rfl (.bool false) rfl rfl (Zbk (by omega)) ?_
  refine Ze (Zf (Zw rfl (Z7 (Zf (Zl (Zb (pt 0 0) (Zb (slv 4 0 ((Zad k.claims r.claim).1.length) ((Zad k.claims r.claim).1.length)) (Zau (p := pt 0 0) (v := pt 0 0) (Zd (b := 0) (o := 0) (n := 0) (o' := 0) (Zd (b := 0) (o := 0) (n := 3) (o' := 3) (Zy (p := pt 0 3) (v := slv 4 0 ((Zad k.claims r.claim).1.length) ((Zad k.claims r.claim).1.length)) (b := 0) (blk := mxB 4 ([Iv k.epoch, Iv k.log, slv 1 0 k.items.length k.items.length, slv 4 0 ((Zad k.claims r.claim).1.length) ((Zad k.claims r.claim).1.length)])) (H' := [mxB 4 ([Iv k.epoch, Iv k.log, slv 1 0 k.items.length k.items.length, slv 4 0 ((Zad k.claims r.claim).1.length) ((Zad k.claims r.claim).1.length)]), rwR Zk k.items, rwR Zh k.claims, rwR Zk r.items, rwB Zh ((Zad k.claims r.claim).1), Y28 r p q]) (Ze (Z1 (Zf (Zj (Zj (Zl (Zb (pt 0 0) (Zau (p := pt 0 0) (v := pt 0 0) (Zd (b := 0) (o := 0) (n := 0) (o' := 0) (Zi (p := pt 0 0) (v := mxV ([Iv k.epoch, Iv k.log, slv 1 0 k.items.length k.items.length, slv 4 0 ((Zad k.claims r.claim).1.length) ((Zad k.claims r.claim).1.length)])) ?_)))))))))))))))))))))
  refine Z2 (e := [some (1, 0), some (4, 0)]) (nid := 0) (Zd3 (G := G) (⟨k.epoch, k.log, k.items, (Zad k.claims r.claim).1⟩ : Kept) k.items.length k.items.length ((Zad k.claims r.claim).1.length) ((Zad k.claims r.claim).1.length) rfl rfl (by omega) (by omega) (by omega) (by omega)) (vals := [mxV ([Iv k.epoch, Iv k.log, slv 1 0 k.items.length k.items.length, slv 4 0 ((Zad k.claims r.claim).1.length) ((Zad k.claims r.claim).1.length)])]) (v := Iv (Zc7 (⟨k.epoch, k.log, k.items, (Zad k.claims r.claim).1⟩ : Kept))) (H' := [mxB 4 ([Iv k.epoch, Iv k.log, slv 1 0 k.items.length k.items.length, slv 4 0 ((Zad k.claims r.claim).1.length) ((Zad k.claims r.claim).1.length)]), rwR Zk k.items, rwR Zh k.claims, rwR Zk r.items, rwB Zh ((Zad k.claims r.claim).1), Y28 r p q]) rfl rfl rfl rfl rfl rfl rfl ⟨⟨(Z9 (by kernel_rfl) ⟨⟨rfl, rfl⟩, ⟨rfl, rfl⟩, ⟨rfl, rfl, rfl, by first | omega | exact Nat.le_refl _, by first | omega | exact Nat.le_refl _⟩, ⟨rfl, rfl, rfl, by first | omega | exact Nat.le_refl _, by first | omega | exact Nat.le_refl _⟩, trivial⟩), trivial⟩, ⟨(Zae rfl), (Zaa rfl), trivial⟩, rfl, rfl, rfl⟩ rfl (by kernel_rfl) ?_
  by_cases h1 : (Zc7 (⟨k.epoch, k.log, k.items, (Zad k.claims r.claim).1⟩ : Kept)) ≠ 0
  refine Zn (vx := Iv (Zc7 (⟨k.epoch, k.log, k.items, (Zad k.claims r.claim).1⟩ : Kept))) (vy := Iv 0) rfl rfl (.bool true) rfl rfl (Zc3 (by omega)) ?_
  refine Ze (Zf (Z8 rfl (Zj (Zl (Zc (Iv 140) (Ze (Zf (Zq (Z4 (Zp ?_))))))))))
  rw [show (Zdu k r).2 = 140 from by rw [Zhg hq]; exact congrArg Prod.snd (Zdk (Za1 (by omega)))]
  exact Zm (v := Iv 140) rfl rfl rfl (by kernel_rfl) rfl
  refine Zn (vx := Iv (Zc7 (⟨k.epoch, k.log, k.items, (Zad k.claims r.claim).1⟩ : Kept))) (vy := Iv 0) rfl rfl (.bool false) rfl rfl (Zbk (by omega)) ?_
  refine Ze (Zf (Zw rfl (Z7 (Zf (Zj (Zl (Zc (Iv 0) (Ze (Zf (Zq (Zp ?_)))))))))))
  rw [show (Zdu k r).2 = 0 from by rw [Zhg hq]; exact congrArg Prod.snd (Zhv (Zb1 (by omega)))]
  exact Zm (v := Iv 0) rfl rfl rfl (by kernel_rfl) rfl
abbrev Y29 (k : Kept) (c : Nat) (d : Nat) : Blk := mxB 4 ([Iv k.epoch, Iv k.log, slv 0 0 k.items.length c, slv 1 0 k.claims.length d])
abbrev Y30 (r : Rec) (p : Nat) (q : Nat) : Blk := mxB 150 ([Iv r.kind, Iv r.epoch, Iv r.from_] ++ (Zt r.item ++ ([slv 2 0 p q] ++ (Zo r.claim))))
abbrev Y31  : Blk := mxB 4 ([Iv 0, Iv 0, .slice none 0 0, .slice none 0 0])
abbrev Y32 (k : Kept) : Blk := mxB 4 ([Iv k.epoch, Iv k.log, slv 6 0 k.items.length k.items.length, slv 7 0 k.claims.length k.claims.length])
abbrev Y33 (k : Kept) (r : Rec) : Blk := mxB 4 ([Iv k.epoch, Iv k.log, slv 6 0 k.items.length k.items.length, slv 9 0 ((Zad k.claims r.claim).1.length) ((Zad k.claims r.claim).1.length)])
theorem Zud (k : Kept) (c d : Nat) (hc : k.items.length ≤ c) (hd : k.claims.length ≤ d) (hb : k.items.length ≤ 100000) (hb2 : k.claims.length ≤ 100000) (r : Rec) (p q : Nat) (hp : r.items.length = p) (hq : p ≤ q) (hpb : p ≤ 100000) (hk4 : 4 ≤ r.kind) : Zas Try.prog G 19 [mxV ([Iv k.epoch, Iv k.log, slv 0 0 k.items.length c, slv 1 0 k.claims.length d]), mxV ([Iv r.kind, Iv r.epoch, Iv r.from_] ++ (Zt r.item ++ ([slv 2 0 p q] ++ (Zo r.claim))))] [rwR Zk k.items, rwR Zh k.claims, rwR Zk r.items] (.tuple #[mxV ([Iv ((Zax k r).1.epoch), Iv ((Zax k r).1.log), slv 3 0 ((Zax k r).1.items.length) ((Zax k r).1.items.length), slv 4 0 ((Zax k r).1.claims.length) ((Zax k r).1.claims.length)]), Iv (Zax k r).2]) [rwR Zk k.items, rwR Zh k.claims, rwR Zk r.items, rwB Zk (Zax k r).1.items, rwB Zh (Zax k r).1.claims] := by
  refine Zcv (fn := Try.f19) (nt := 42) rfl rfl rfl rfl ?_
  refine Zbq 9 (H' := [rwR Zk k.items, rwR Zh k.claims, rwR Zk r.items, hole, hole, hole, hole, hole, hole, hole, hole, hole]) rfl ?_
  refine Zj (Zl (Zbw (v := mxV ([Iv k.epoch, Iv k.log, slv 0 0 k.items.length c, slv 1 0 k.claims.length d])) (b := mxB 4 ([Iv k.epoch, Iv k.log, slv 0 0 k.items.length c, slv 1 0 k.claims.length d])) (nid := 3) (H' := [rwR Zk k.items, rwR Zh k.claims, rwR Zk r.items, Y29 k c d, hole, hole, hole, hole, hole, hole, hole, hole]) (Zbw (v := mxV ([Iv r.kind, Iv r.epoch, Iv r.from_] ++ (Zt r.item ++ ([slv 2 0 p q] ++ (Zo r.claim))))) (b := mxB 150 ([Iv r.kind, Iv r.epoch, Iv r.from_] ++ (Zt r.item ++ ([slv 2 0 p q] ++ (Zo r.claim))))) (nid := 4) (H' := [rwR Zk k.items, rwR Zh k.claims, rwR Zk r.items, Y29 k c d, Y30 r p q, hole, hole, hole, hole, hole, hole, hole]) (Za4 (b := mxB 4 ([Iv 0, Iv 0, .slice none 0 0, .slice none 0 0])) (nid := 5) (H' := [rwR Zk k.items, rwR Zh k.claims, rwR Zk r.items, Y29 k c d, Y30 r p q, Y31, hole, hole, hole, hole, hole, hole]) (Zc (Iv 0) (Ze (Zf (Zj (Zbm (Zj (Zl (Zi (p := pt 3 0) (v := mxV ([Iv k.epoch, Iv k.log, slv 0 0 k.items.length c, slv 1 0 k.claims.length d])) ?_))))))))))))
  refine Z2 (e := [some (0, 0), some (1, 0)]) (nid := 0) (Zd3 (G := G) k k.items.length c k.claims.length d rfl rfl (by omega) (by omega) (by omega) (by omega)) (vals := [mxV ([Iv k.epoch, Iv k.log, slv 0 0 k.items.length c, slv 1 0 k.claims.length d])]) (v := Iv (Zc7 k)) (H' := [rwR Zk k.items, rwR Zh k.claims, rwR Zk r.items, Y29 k c d, Y30 r p q, Y31, hole, hole, hole, hole, hole, hole]) rfl rfl rfl rfl rfl rfl rfl ⟨⟨(Z9 (by kernel_rfl) ⟨⟨rfl, rfl⟩, ⟨rfl, rfl⟩, ⟨rfl, rfl, rfl, by first | omega | exact Nat.le_refl _, by first | omega | exact Nat.le_refl _⟩, ⟨rfl, rfl, rfl, by first | omega | exact Nat.le_refl _, by first | omega | exact Nat.le_refl _⟩, trivial⟩), trivial⟩, ⟨(Zae rfl), (Zae rfl), trivial⟩, rfl, rfl, rfl⟩ rfl (by kernel_rfl) ?_
  by_cases h1 : (Zc7 k) ≠ 0
  refine Zn (vx := Iv (Zc7 k)) (vy := Iv 0) rfl rfl (.bool true) rfl rfl (Zc3 (by omega)) ?_
  refine Zc (.bool true) (Ze (Zf (Z8 rfl (Zj (Zl ?_)))))
  refine Zbg (vs := []) (v := mxV ([Iv 0, Iv 0, .slice none 0 0, .slice none 0 0])) rfl rfl rfl (by kernel_rfl) ?_
  refine Zy (p := pt 5 0) (v := mxV ([Iv 0, Iv 0, .slice none 0 0, .slice none 0 0])) (b := 5) (blk := mxB 4 ([Iv 0, Iv 0, .slice none 0 0, .slice none 0 0])) (H' := [rwR Zk k.items, rwR Zh k.claims, rwR Zk r.items, Y29 k c d, Y30 r p q, Y31, hole, hole, hole, hole, hole, hole]) (Zc (Iv 1) (Ze (Zf ?_)))
  refine Zda (Zch.nilCell (k := 5) (j := 2) (b := 6) true 110 rfl (by decide) rfl (by show 0 < 4; decide) rfl rfl) ?_
  refine Zda (Zch.nilCell (k := 5) (j := 3) (b := 7) true 36 rfl (by decide) rfl (by show 0 < 4; decide) rfl rfl) ?_
  refine Zq (Zag (Z4 (Zp ?_)))
  rw [show Zax k r = (⟨0, 0, [], []⟩, 1) from Zsk (Za1 (by omega))]
  exact Zbe [0, 1, 2, 6, 7] (v := .tuple #[mxV ([Iv 0, Iv 0, slv 6 0 0 0, slv 7 0 0 0]), Iv 1]) rfl (by kernel_rfl) rfl rfl (by decide) (by simp [Zcl, rwB, rwR, Zk, Zh]) ⟨(Z9 (by kernel_rfl) ⟨⟨rfl, rfl⟩, ⟨rfl, rfl⟩, ⟨rfl, rfl, rfl, by first | omega | exact Nat.le_refl _ | exact Nat.zero_le _ | (dsimp only; omega), by first | omega | exact Nat.le_refl _ | exact Nat.zero_le _ | (dsimp only; omega)⟩, ⟨rfl, rfl, rfl, by first | omega | exact Nat.le_refl _ | exact Nat.zero_le _ | (dsimp only; omega), by first | omega | exact Nat.le_refl _ | exact Nat.zero_le _ | (dsimp only; omega)⟩, trivial⟩), rfl, trivial⟩
  refine Zn (vx := Iv (Zc7 k)) (vy := Iv 0) rfl rfl (.bool false) rfl rfl (Zbk (by omega)) ?_
  refine Zc (.bool false) (Ze (Zf (Zw rfl (Zj (Zl (Zi (p := pt 4 0) (v := mxV ([Iv r.kind, Iv r.epoch, Iv r.from_] ++ (Zt r.item ++ ([slv 2 0 p q] ++ (Zo r.claim))))) ?_))))))
  refine Z2 (e := [some (2, 0)]) (nid := 0) (Zst (G := G) r p q hp (by omega) (by omega)) (vals := [mxV ([Iv r.kind, Iv r.epoch, Iv r.from_] ++ (Zt r.item ++ ([slv 2 0 p q] ++ (Zo r.claim))))]) (v := .bool (decide (Zbs r))) (H' := [rwR Zk k.items, rwR Zh k.claims, rwR Zk r.items, Y29 k c d, Y30 r p q, Y31, hole, hole, hole, hole, hole, hole]) rfl rfl rfl rfl rfl rfl rfl ⟨⟨(Z9 (by kernel_rfl) (Z0 ⟨⟨rfl, rfl⟩, ⟨rfl, rfl⟩, ⟨rfl, rfl⟩, trivial⟩ (Z0 (Zac (by kernel_rfl)) (Z0 ⟨⟨rfl, rfl, rfl, by first | omega | exact Nat.le_refl _, by first | omega | exact Nat.le_refl _⟩, trivial⟩ (Zac (by kernel_rfl)))))), trivial⟩, ⟨(Zae rfl), trivial⟩, rfl, rfl, rfl⟩ rfl (by kernel_rfl) ?_
  rcases Bool.eq_false_or_eq_true (decide (Zbs r)) with h2 | h2
  refine Zd1 (vx := .bool (decide (Zbs r))) rfl rfl (.bool false) rfl (Eq.trans Zbl (congrArg (fun b => some (Value.bool !b)) h2)) ?_
  refine Zc (.bool false) (Ze (Zf (Zw rfl (Z7 (Z1 (Zf (Zj ?_)))))))
  refine Zeu (by kernel_rfl) ?_
  refine Zd (b := 3) (o := 0) (n := 2) (o' := 2) (Zi (p := pt 3 2) (v := slv 0 0 k.items.length c) ?_)
  refine Z2 (e := [some (0, 0)]) (nid := 6) (Zmv (G := G) k.items k.items.length c rfl (by omega) (by omega)) (vals := [slv 0 0 k.items.length c]) (v := slv 6 0 k.items.length k.items.length) (H' := [rwR Zk k.items, rwR Zh k.claims, rwR Zk r.items, Y29 k c d, Y30 r p q, Y31, rwB Zk k.items, hole, hole, hole, hole, hole]) rfl rfl rfl rfl rfl rfl rfl ⟨⟨⟨rfl, rfl, rfl, by first | omega | exact Nat.le_refl _, by first | omega | exact Nat.le_refl _⟩, trivial⟩, ⟨(Zae rfl), trivial⟩, rfl, rfl, rfl⟩ (by kernel_rfl) (by kernel_rfl) ?_
  refine Zd (b := 3) (o := 0) (n := 3) (o' := 3) (Zi (p := pt 3 3) (v := slv 1 0 k.claims.length d) ?_)
  refine Z2 (e := [some (1, 0)]) (nid := 7) (Zid (G := G) k.claims k.claims.length d rfl (by omega) (by omega)) (vals := [slv 1 0 k.claims.length d]) (v := slv 7 0 k.claims.length k.claims.length) (H' := [rwR Zk k.items, rwR Zh k.claims, rwR Zk r.items, Y29 k c d, Y30 r p q, Y31, rwB Zk k.items, rwB Zh k.claims, hole, hole, hole, hole]) rfl rfl rfl rfl rfl rfl rfl ⟨⟨⟨rfl, rfl, rfl, by first | omega | exact Nat.le_refl _, by first | omega | exact Nat.le_refl _⟩, trivial⟩, ⟨(Zae rfl), trivial⟩, rfl, rfl, rfl⟩ (by kernel_rfl) (by kernel_rfl) ?_
  refine Zd (b := 3) (o := 0) (n := 2) (o' := 2) (Zy (p := pt 3 2) (v := slv 6 0 k.items.length k.items.length) (b := 3) (blk := mxB 4 ([Iv k.epoch, Iv k.log, slv 6 0 k.items.length k.items.length, slv 1 0 k.claims.length d])) (H' := [rwR Zk k.items, rwR Zh k.claims, rwR Zk r.items, mxB 4 ([Iv k.epoch, Iv k.log, slv 6 0 k.items.length k.items.length, slv 1 0 k.claims.length d]), Y30 r p q, Y31, rwB Zk k.items, rwB Zh k.claims, hole, hole, hole, hole]) (Zd (b := 3) (o := 0) (n := 3) (o' := 3) (Zy (p := pt 3 3) (v := slv 7 0 k.claims.length k.claims.length) (b := 3) (blk := mxB 4 ([Iv k.epoch, Iv k.log, slv 6 0 k.items.length k.items.length, slv 7 0 k.claims.length k.claims.length])) (H' := [rwR Zk k.items, rwR Zh k.claims, rwR Zk r.items, Y32 k, Y30 r p q, Y31, rwB Zk k.items, rwB Zh k.claims, hole, hole, hole, hole]) ?_)))
  refine Zco (Za8 [[], [0], [0, 1], [], [3], [0, 1, 2, 3, 4], [0, 1, 2, 3, 4], [0, 1, 2, 3, 4, 5, 6], [0, 1, 2, 3, 4, 5, 6, 7], [0, 1, 2, 3, 4, 5, 6, 7, 8]] (by kernel_rfl) (by kernel_rfl)) ?_
  refine Zf (Zj (Zl (Zi (p := pt 3 0) (v := mxV ([Iv k.epoch, Iv k.log, slv 6 0 k.items.length k.items.length, slv 7 0 k.claims.length k.claims.length])) ?_)))
  refine Zbg (vs := [(0, mxV ([Iv k.epoch, Iv k.log, slv 6 0 k.items.length k.items.length, slv 7 0 k.claims.length k.claims.length]))]) (v := mxV ([Iv k.epoch, Iv k.log, slv 6 0 k.items.length k.items.length, slv 7 0 k.claims.length k.claims.length])) rfl rfl rfl (by kernel_rfl) ?_
  refine Zbw (v := mxV ([Iv k.epoch, Iv k.log, slv 6 0 k.items.length k.items.length, slv 7 0 k.claims.length k.claims.length])) (b := mxB 4 ([Iv k.epoch, Iv k.log, slv 6 0 k.items.length k.items.length, slv 7 0 k.claims.length k.claims.length])) (nid := 8) (H' := [rwR Zk k.items, rwR Zh k.claims, rwR Zk r.items, Y32 k, Y30 r p q, Y31, rwB Zk k.items, rwB Zh k.claims, Y32 k, hole, hole, hole]) (Zc (pt 8 0) (Ze (Zf (Zj (Zl (Zc (.func (.func 39) #[] #[]) (Ze (Zf (Zj (Zj (Zl (Zb (.func (.func 39) #[] #[]) (Zb (pt 8 0) (Zi (p := pt 4 0) (v := mxV ([Iv r.kind, Iv r.epoch, Iv r.from_] ++ (Zt r.item ++ ([slv 2 0 p q] ++ (Zo r.claim))))) ?_))))))))))))))
  by_cases h3 : ((Zad k.claims r.claim).2) ≤ 0
  have hnn6 := Zrf k.claims r.claim
  have hmy6 := Zvv (of_decide_eq_true (by assumption : decide (Zbs r) = true)) hk4
  refine Z2 (e := [some (8, 0), some (6, 0), some (7, 0), some (2, 0)]) (nid := 9) (Zw5 (G := G) k r p q hp (by omega) (by omega) (by omega) (by omega) hmy6 (by omega)) (vals := [pt 8 0, mxV ([Iv r.kind, Iv r.epoch, Iv r.from_] ++ (Zt r.item ++ ([slv 2 0 p q] ++ (Zo r.claim))))]) (v := Iv ((Zdu k r).2)) (H' := [rwR Zk k.items, rwR Zh k.claims, rwR Zk r.items, Y32 k, Y30 r p q, Y31, rwB Zk k.items, rwB Zh k.claims, Y33 k r, rwB Zh ((Zad k.claims r.claim).1), hole, hole]) rfl rfl rfl rfl rfl rfl rfl ⟨⟨⟨rfl, rfl⟩, (Z9 (by kernel_rfl) (Z0 ⟨⟨rfl, rfl⟩, ⟨rfl, rfl⟩, ⟨rfl, rfl⟩, trivial⟩ (Z0 (Zac (by kernel_rfl)) (Z0 ⟨⟨rfl, rfl, rfl, by first | omega | exact Nat.le_refl _, by first | omega | exact Nat.le_refl _⟩, trivial⟩ (Zac (by kernel_rfl)))))), trivial⟩, ⟨(Zht (B := mxB 4 ([Iv k.epoch, Iv k.log, slv 6 0 k.items.length k.items.length, slv 7 0 k.claims.length k.claims.length])) (by kernel_rfl) rfl rfl (by kernel_rfl)), (Zaa rfl), (Zaa rfl), (Zae rfl), trivial⟩, rfl, rfl, rfl⟩ rfl (by kernel_rfl) ?_
  refine Zc (Iv ((Zdu k r).2)) (Ze (Zf (Zj (Zl (Zb (Iv ((Zdu k r).2)) ?_)))))
  by_cases h4 : ((Zdu k r).2) ≠ 0
  refine Zn (vx := Iv ((Zdu k r).2)) (vy := Iv 0) rfl rfl (.bool true) rfl rfl (Zc3 (by omega)) ?_
  refine Ze (Zf (Z8 rfl (Zj (Zl ?_))))
  refine Zbg (vs := []) (v := mxV ([Iv 0, Iv 0, .slice none 0 0, .slice none 0 0])) rfl rfl rfl (by kernel_rfl) ?_
  refine Zb (Iv ((Zdu k r).2)) (Zy (p := pt 5 0) (v := mxV ([Iv 0, Iv 0, .slice none 0 0, .slice none 0 0])) (b := 5) (blk := mxB 4 ([Iv 0, Iv 0, .slice none 0 0, .slice none 0 0])) (H' := [rwR Zk k.items, rwR Zh k.claims, rwR Zk r.items, Y32 k, Y30 r p q, Y31, rwB Zk k.items, rwB Zh k.claims, Y33 k r, rwB Zh ((Zad k.claims r.claim).1), hole, hole]) (Zc (Iv ((Zdu k r).2)) (Ze (Zf ?_))))
  refine Zda (Zch.nilCell (k := 5) (j := 2) (b := 10) true 110 rfl (by decide) rfl (by show 0 < 4; decide) rfl rfl) ?_
  refine Zda (Zch.nilCell (k := 5) (j := 3) (b := 11) true 36 rfl (by decide) rfl (by show 0 < 4; decide) rfl rfl) ?_
  refine Zq (Z4 (Zp ?_))
  rw [show Zax k r = (⟨0, 0, [], []⟩, (Zdu k r).2) from Zlr (Zb1 (by omega)) (of_decide_eq_true (by assumption)) (by omega) (by omega)]
  exact Zbe [0, 1, 2, 10, 11] (v := .tuple #[mxV ([Iv 0, Iv 0, slv 10 0 0 0, slv 11 0 0 0]), Iv ((Zdu k r).2)]) rfl (by kernel_rfl) rfl rfl (by decide) (by simp [Zcl, rwB, rwR, Zk, Zh]) ⟨(Z9 (by kernel_rfl) ⟨⟨rfl, rfl⟩, ⟨rfl, rfl⟩, ⟨rfl, rfl, rfl, by first | omega | exact Nat.le_refl _ | exact Nat.zero_le _ | (dsimp only; omega), by first | omega | exact Nat.le_refl _ | exact Nat.zero_le _ | (dsimp only; omega)⟩, ⟨rfl, rfl, rfl, by first | omega | exact Nat.le_refl _ | exact Nat.zero_le _ | (dsimp only; omega), by first | omega | exact Nat.le_refl _ | exact Nat.zero_le _ | (dsimp only; omega)⟩, trivial⟩), rfl, trivial⟩
  refine Zn (vx := Iv ((Zdu k r).2)) (vy := Iv 0) rfl rfl (.bool false) rfl rfl (Zbk (by omega)) ?_
  refine Ze (Zf (Zw rfl (Z7 (Zf (Zj (Zl (Zb (pt 8 0) (Zau (p := pt 8 0) (v := pt 8 0) (Zd (b := 8) (o := 0) (n := 0) (o' := 0) (Zi (p := pt 8 0) (v := mxV ([Iv k.epoch, Iv k.log, slv 6 0 k.items.length k.items.length, slv 9 0 ((Zad k.claims r.claim).1.length) ((Zad k.claims r.claim).1.length)])) (Zy (p := pt 5 0) (v := mxV ([Iv k.epoch, Iv k.log, slv 6 0 k.items.length k.items.length, slv 9 0 ((Zad k.claims r.claim).1.length) ((Zad k.claims r.claim).1.length)])) (b := 5) (blk := mxB 4 ([Iv k.epoch, Iv k.log, slv 6 0 k.items.length k.items.length, slv 9 0 ((Zad k.claims r.claim).1.length) ((Zad k.claims r.claim).1.length)])) (H' := [rwR Zk k.items, rwR Zh k.claims, rwR Zk r.items, Y32 k, Y30 r p q, Y33 k r, rwB Zk k.items, rwB Zh k.claims, Y33 k r, rwB Zh ((Zad k.claims r.claim).1), hole, hole]) (Zc (Iv 0) (Ze (Zf (Zq (Zp ?_))))))))))))))))
  rw [show Zax k r = ((⟨k.epoch, k.log, k.items, (Zad k.claims r.claim).1⟩ : Kept), 0) from Zu3 (Zb1 (by omega)) (of_decide_eq_true (by assumption)) (by omega) (by omega) (by omega)]
  exact Zbe [0, 1, 2, 6, 9] (v := .tuple #[mxV ([Iv k.epoch, Iv k.log, slv 6 0 k.items.length k.items.length, slv 9 0 ((Zad k.claims r.claim).1.length) ((Zad k.claims r.claim).1.length)]), Iv 0]) rfl (by kernel_rfl) rfl rfl (by decide) (by simp [Zcl, rwB, rwR, Zk, Zh]) ⟨(Z9 (by kernel_rfl) ⟨⟨rfl, rfl⟩, ⟨rfl, rfl⟩, ⟨rfl, rfl, rfl, by first | omega | exact Nat.le_refl _ | exact Nat.zero_le _ | (dsimp only; omega), by first | omega | exact Nat.le_refl _ | exact Nat.zero_le _ | (dsimp only; omega)⟩, ⟨rfl, rfl, rfl, by first | omega | exact Nat.le_refl _ | exact Nat.zero_le _ | (dsimp only; omega), by first | omega | exact Nat.le_refl _ | exact Nat.zero_le _ | (dsimp only; omega)⟩, trivial⟩), rfl, trivial⟩
  have hnn7 := Zrf k.claims r.claim
  have hmy7 := Zvv (of_decide_eq_true (by assumption : decide (Zbs r) = true)) hk4
  have hq7 : 1 ≤ (Zad k.claims r.claim).2 := by have := Zrf k.claims r.claim; omega
  refine Z2 (e := [some (8, 0), some (6, 0), some (7, 0), some (2, 0)]) (nid := 0) (Zw4 (G := G) k r p q hp (by omega) (by omega) (by omega) (by omega) hmy7 hq7) (vals := [pt 8 0, mxV ([Iv r.kind, Iv r.epoch, Iv r.from_] ++ (Zt r.item ++ ([slv 2 0 p q] ++ (Zo r.claim))))]) (v := Iv 140) (H' := [rwR Zk k.items, rwR Zh k.claims, rwR Zk r.items, Y32 k, Y30 r p q, Y31, rwB Zk k.items, rwB Zh k.claims, Y32 k, hole, hole, hole]) rfl rfl rfl rfl rfl rfl rfl ⟨⟨⟨rfl, rfl⟩, (Z9 (by kernel_rfl) (Z0 ⟨⟨rfl, rfl⟩, ⟨rfl, rfl⟩, ⟨rfl, rfl⟩, trivial⟩ (Z0 (Zac (by kernel_rfl)) (Z0 ⟨⟨rfl, rfl, rfl, by first | omega | exact Nat.le_refl _, by first | omega | exact Nat.le_refl _⟩, trivial⟩ (Zac (by kernel_rfl)))))), trivial⟩, ⟨(Zht (B := mxB 4 ([Iv k.epoch, Iv k.log, slv 6 0 k.items.length k.items.length, slv 7 0 k.claims.length k.claims.length])) (by kernel_rfl) rfl rfl (by kernel_rfl)), (Zaa rfl), (Zaa rfl), (Zae rfl), trivial⟩, rfl, rfl, rfl⟩ rfl (by kernel_rfl) ?_
  refine Zc (Iv 140) (Ze (Zf (Zj (Zl (Zb (Iv 140) ?_)))))
  refine Zn (vx := Iv 140) (vy := Iv 0) rfl rfl (.bool true) rfl rfl (Zc3 (by omega)) ?_
  refine Ze (Zf (Z8 rfl (Zj (Zl ?_))))
  refine Zbg (vs := []) (v := mxV ([Iv 0, Iv 0, .slice none 0 0, .slice none 0 0])) rfl rfl rfl (by kernel_rfl) ?_
  refine Zb (Iv 140) (Zy (p := pt 5 0) (v := mxV ([Iv 0, Iv 0, .slice none 0 0, .slice none 0 0])) (b := 5) (blk := mxB 4 ([Iv 0, Iv 0, .slice none 0 0, .slice none 0 0])) (H' := [rwR Zk k.items, rwR Zh k.claims, rwR Zk r.items, Y32 k, Y30 r p q, Y31, rwB Zk k.items, rwB Zh k.claims, Y32 k, hole, hole, hole]) (Zc (Iv 140) (Ze (Zf ?_))))
  refine Zda (Zch.nilCell (k := 5) (j := 2) (b := 9) true 110 rfl (by decide) rfl (by show 0 < 4; decide) rfl rfl) ?_
  refine Zda (Zch.nilCell (k := 5) (j := 3) (b := 10) true 36 rfl (by decide) rfl (by show 0 < 4; decide) rfl rfl) ?_
  refine Zq (Z4 (Zp ?_))
  rw [show Zax k r = (⟨0, 0, [], []⟩, 140) from by first | exact Zog (Zb1 (by omega)) (of_decide_eq_false (by assumption)) | exact (Zlr (Zb1 (by omega)) (of_decide_eq_true (by assumption)) (by omega) (by rw [Zip (by omega)]; show ¬ (140 : Int) = 0; decide)).trans (by rw [Zip (by omega)])]
  exact Zbe [0, 1, 2, 9, 10] (v := .tuple #[mxV ([Iv 0, Iv 0, slv 9 0 0 0, slv 10 0 0 0]), Iv 140]) rfl (by kernel_rfl) rfl rfl (by decide) (by simp [Zcl, rwB, rwR, Zk, Zh]) ⟨(Z9 (by kernel_rfl) ⟨⟨rfl, rfl⟩, ⟨rfl, rfl⟩, ⟨rfl, rfl, rfl, by first | omega | exact Nat.le_refl _ | exact Nat.zero_le _ | (dsimp only; omega), by first | omega | exact Nat.le_refl _ | exact Nat.zero_le _ | (dsimp only; omega)⟩, ⟨rfl, rfl, rfl, by first | omega | exact Nat.le_refl _ | exact Nat.zero_le _ | (dsimp only; omega), by first | omega | exact Nat.le_refl _ | exact Nat.zero_le _ | (dsimp only; omega)⟩, trivial⟩), rfl, trivial⟩
  refine Zd1 (vx := .bool (decide (Zbs r))) rfl rfl (.bool true) rfl (Eq.trans Zbl (congrArg (fun b => some (Value.bool !b)) h2)) ?_
  refine Zc (.bool true) (Ze (Zf (Z8 rfl (Zj (Zl ?_)))))
  refine Zbg (vs := []) (v := mxV ([Iv 0, Iv 0, .slice none 0 0, .slice none 0 0])) rfl rfl rfl (by kernel_rfl) ?_
  refine Zy (p := pt 5 0) (v := mxV ([Iv 0, Iv 0, .slice none 0 0, .slice none 0 0])) (b := 5) (blk := mxB 4 ([Iv 0, Iv 0, .slice none 0 0, .slice none 0 0])) (H' := [rwR Zk k.items, rwR Zh k.claims, rwR Zk r.items, Y29 k c d, Y30 r p q, Y31, hole, hole, hole, hole, hole, hole]) (Zc (Iv 140) (Ze (Zf ?_)))
  refine Zda (Zch.nilCell (k := 5) (j := 2) (b := 6) true 110 rfl (by decide) rfl (by show 0 < 4; decide) rfl rfl) ?_
  refine Zda (Zch.nilCell (k := 5) (j := 3) (b := 7) true 36 rfl (by decide) rfl (by show 0 < 4; decide) rfl rfl) ?_
  refine Zq (Zag (Z4 (Zp ?_)))
  rw [show Zax k r = (⟨0, 0, [], []⟩, 140) from by first | exact Zog (Zb1 (by omega)) (of_decide_eq_false (by assumption)) | exact (Zlr (Zb1 (by omega)) (of_decide_eq_true (by assumption)) (by omega) (by rw [Zip (by omega)]; show ¬ (140 : Int) = 0; decide)).trans (by rw [Zip (by omega)])]
  exact Zbe [0, 1, 2, 6, 7] (v := .tuple #[mxV ([Iv 0, Iv 0, slv 6 0 0 0, slv 7 0 0 0]), Iv 140]) rfl (by kernel_rfl) rfl rfl (by decide) (by simp [Zcl, rwB, rwR, Zk, Zh]) ⟨(Z9 (by kernel_rfl) ⟨⟨rfl, rfl⟩, ⟨rfl, rfl⟩, ⟨rfl, rfl, rfl, by first | omega | exact Nat.le_refl _ | exact Nat.zero_le _ | (dsimp only; omega), by first | omega | exact Nat.le_refl _ | exact Nat.zero_le _ | (dsimp only; omega)⟩, ⟨rfl, rfl, rfl, by first | omega | exact Nat.le_refl _ | exact Nat.zero_le _ | (dsimp only; omega), by first | omega | exact Nat.le_refl _ | exact Nat.zero_le _ | (dsimp only; omega)⟩, trivial⟩), rfl, trivial⟩
theorem Zho (k : Kept) (c d : Nat) (hc : k.items.length ≤ c) (hd : k.claims.length ≤ d) (hb : k.items.length ≤ 100000) (hb2 : k.claims.length ≤ 100000) (r : Rec) (p q : Nat) (hp : r.items.length = p) (hq : p ≤ q) (hpb : p ≤ 100000) : Zas Try.prog G 19 [mxV ([Iv k.epoch, Iv k.log, slv 0 0 k.items.length c, slv 1 0 k.claims.length d]), mxV ([Iv r.kind, Iv r.epoch, Iv r.from_] ++ (Zt r.item ++ ([slv 2 0 p q] ++ (Zo r.claim))))] [rwR Zk k.items, rwR Zh k.claims, rwR Zk r.items] (.tuple #[mxV ([Iv ((Zax k r).1.epoch), Iv ((Zax k r).1.log), slv 3 0 ((Zax k r).1.items.length) ((Zax k r).1.items.length), slv 4 0 ((Zax k r).1.claims.length) ((Zax k r).1.claims.length)]), Iv (Zax k r).2]) [rwR Zk k.items, rwR Zh k.claims, rwR Zk r.items, rwB Zk (Zax k r).1.items, rwB Zh (Zax k r).1.claims] := by
 by_cases h : r.kind ≤ 3
 ·rw [Zu4 h]; exact Zrx k c d hc hd hb hb2 r p q hp hq hpb h
 ·exact Zud k c d hc hd hb hb2 r p q hp hq hpb (by omega)
end Go.Flat
namespace Go.Flat
open Go.Proofs
variable {G : Glob}
section
variable {k K : Kept} {r : Rec} {e : Int}
theorem Zsj (h : Zbx k) (h1 : Zbs r) (hw : Zc4 k r = Zgn K) (hr : Zbx K) : Zax k r = (K, 0) := by
 have h2 : Zc4 k r = (K, 0) := by rw [hw, Zhv hr]
 rw [Zoh h h1 (by rw [h2]), h2]
end
end Go.Flat
namespace Go.Flat
open Go.Proofs
variable {G : Glob}
def Z17 (n : Nat) (cs : List Value) : Blk := { cells := cs, sz := n, wr := true, fix := false, mv := true, pur := true }
section
variable {k : Kept} {r : Rec}
theorem Zua (k : Kept) (r : Rec) : (Zc4 k r).1.items.length ≤ k.items.length + r.items.length + 1 ∧ (Zc4 k r).1.claims.length ≤ k.claims.length + 1 := by
 have hr := Zos k.claims r.claim
 unfold Zc4
 split
 ·unfold Zdu; split
  ·show k.items.length ≤ _ ∧ (Zad k.claims r.claim).1.length ≤ _; omega
  ·show k.items.length ≤ _ ∧ k.claims.length ≤ _; omega
 ·unfold Zaf Zgn
  split
  ·split <;> (show k.items.length ≤ _ ∧ k.claims.length ≤ _; omega)
  ·split
   ·split
    ·show (k.items ++ [r.item]).length ≤ _ ∧ k.claims.length ≤ _; simp <;> omega
    ·show k.items.length ≤ _ ∧ k.claims.length ≤ _; omega
   ·split
    ·show k.items.length ≤ _ ∧ k.claims.length ≤ _; omega
    ·split
     ·show k.items.length ≤ _ ∧ k.claims.length ≤ _; omega
     ·show (k.items.take _ ++ r.items).length ≤ _ ∧ k.claims.length ≤ _; simp <;> omega
theorem Ztg (k : Kept) (r : Rec) : (Zax k r).1.items.length ≤ k.items.length + r.items.length + 1 ∧ (Zax k r).1.claims.length ≤ k.claims.length + 1 := by
 have := Zua k r
 unfold Zax
 split
 ·split
  ·split
   ·exact this
   ·exact ⟨Nat.zero_le _, Nat.zero_le _⟩
  ·exact ⟨Nat.zero_le _, Nat.zero_le _⟩
 ·exact ⟨Nat.zero_le _, Nat.zero_le _⟩
theorem Zwi (k : Kept) (r : Rec) : 0 ≤ (Zc4 k r).2 := by
 unfold Zc4
 split
 ·unfold Zdu; split
  ·exact Zof _
  ·show (0 : Int) ≤ 140; decide
 ·exact Zxx k r
theorem Zu5 (k : Kept) (r : Rec) : 0 ≤ (Zax k r).2 := by
 have := Zwi k r
 unfold Zax
 split
 ·split
  ·split
   ·show (0 : Int) ≤ 0; decide
   ·exact this
  ·show (0 : Int) ≤ 140; decide
 ·show (0 : Int) ≤ 1; decide
theorem Zls (h : (Zax k r).2 = 0) : Zbx k ∧ Zbs r ∧ (Zc4 k r).2 = 0 ∧ (Zax k r).1 = (Zc4 k r).1 := by
 by_cases h1 : Zbx k
 ·by_cases h2 : Zbs r
  ·by_cases h3 : (Zc4 k r).2 = 0
   ·exact ⟨h1, h2, h3, by rw [Zoh h1 h2 h3]⟩
   ·rw [Zsl h1 h2 h3] at h; exact absurd h h3
  ·rw [Zog h1 h2] at h; exact absurd h (by decide)
 ·rw [Zsk h1] at h; exact absurd h (by decide)
theorem Zlq {K : Kept} (h : (Zgn K).2 = 0) : Zbx K := by
 unfold Zgn at h
 split at h
 ·assumption
 ·exact absurd h (by simp)
def Zhl (k : Kept) (r : Rec) : Nat := if r.kind = 3 then r.from_.toNat else k.items.length
theorem Zub (hK : Zbx k) (hm : Zbs r) (h : (Zc4 k r).2 = 0) : Zbx (Zc4 k r).1 ∧ k.epoch ≤ (Zc4 k r).1.epoch ∧ k.log ≤ (Zc4 k r).1.log ∧ k.claims.length ≤ (Zc4 k r).1.claims.length ∧ Zhl k r ≤ k.items.length ∧ Zhl k r ≤ (Zc4 k r).1.items.length ∧ (Zc4 k r).1.items.take (Zhl k r) = k.items.take (Zhl k r) := by
 have hk := Zkd hm
 have hl : k.log ≤ k.epoch := hK.2.1.2
 by_cases h4 : r.kind = 4
 ·have hs : Zhl k r = k.items.length := if_neg (by omega)
  rw [Zgg h4] at h ⊢
  by_cases hq : (Zad k.claims r.claim).2 = 0
  ·rw [Zhg hq] at h ⊢
   have hr := Zlq h
   refine ⟨hr, Int.le_refl _, Int.le_refl _, ?_, by rw [hs]; exact Nat.le_refl _, by rw [hs]; exact Nat.le_refl _, rfl⟩
   show k.claims.length ≤ (Zad k.claims r.claim).1.length
   unfold Zad at hq ⊢
   split
   ·split
    ·split
     ·exact Nat.le_refl _
     ·rename_i a b c; rw [if_pos a, if_pos b, if_neg c] at hq; exact absurd hq (by simp)
    ·have := Zjw k.claims r.claim; simp; omega
   ·rename_i a; rw [if_neg a] at hq; exact absurd hq (by simp)
  ·rw [Zip hq] at h; exact absurd h (by simp)
 ·rw [Zs3 h4] at h ⊢
  by_cases k1 : r.kind = 1
  ·have hs : Zhl k r = k.items.length := if_neg (by omega)
   by_cases e1 : r.epoch < k.epoch
   ·rw [Zfs k1 e1] at h; exact absurd h (by simp)
   ·rw [Zej k1 e1] at h ⊢
    exact ⟨Zlq h, by show k.epoch ≤ r.epoch; omega, Int.le_refl _, Nat.le_refl _, by rw [hs]; exact Nat.le_refl _, by rw [hs]; exact Nat.le_refl _, rfl⟩
  ·by_cases k2 : r.kind = 2
   ·have hs : Zhl k r = k.items.length := if_neg (by omega)
    by_cases e1 : r.item.epoch = k.log ∧ Zes k.items k.items.length r.item = 0
    ·rw [Zek k2 e1.1 e1.2] at h ⊢
     exact ⟨Zlq h, Int.le_refl _, Int.le_refl _, Nat.le_refl _, by rw [hs]; exact Nat.le_refl _, by rw [hs]; show _ ≤ (k.items ++ [r.item]).length; simp, by rw [hs]; show (k.items ++ [r.item]).take _ = _; simp⟩
    ·rw [Zft k2 e1] at h; exact absurd h (by simp)
   ·have k3 : r.kind = 3 := by omega
    have hs : Zhl k r = r.from_.toNat := if_pos k3
    by_cases e1 : r.epoch < k.epoch
    ·rw [Zfu k3 e1] at h; exact absurd h (by simp)
    ·by_cases e2 : (k.items.length : Int) < r.from_
     ·rw [Zfv k3 e1 e2] at h; exact absurd h (by simp)
     ·rw [Zel k3 e1 e2] at h ⊢
      have hf : r.from_.toNat ≤ k.items.length := by omega
      have hlt : (k.items.take r.from_.toNat).length = r.from_.toNat := by rw [List.length_take]; omega
      refine ⟨Zlq h, by show k.epoch ≤ r.epoch; omega, by show k.log ≤ r.epoch; omega, Nat.le_refl _, by rw [hs]; exact hf, ?_, ?_⟩
      ·rw [hs]; show _ ≤ (k.items.take r.from_.toNat ++ r.items).length; rw [List.length_append, hlt]; omega
      ·rw [hs]; show (k.items.take r.from_.toNat ++ r.items).take r.from_.toNat = _; rw [List.take_append_of_le_length (by omega), List.take_take, Nat.min_self]
theorem Zth (h : (Zax k r).2 = 0) : Zbx k ∧ Zbx (Zax k r).1 ∧ k.epoch ≤ (Zax k r).1.epoch ∧ k.log ≤ (Zax k r).1.log ∧ k.claims.length ≤ (Zax k r).1.claims.length ∧ Zhl k r ≤ k.items.length ∧ Zhl k r ≤ (Zax k r).1.items.length ∧ (Zax k r).1.items.take (Zhl k r) = k.items.take (Zhl k r) := by
 obtain ⟨h1, h2, h3, h4⟩ := Zls h
 rw [h4]
 exact ⟨h1, Zub h1 h2 h3⟩
end
theorem Zue (k : Kept) (c d : Nat) (hc : k.items.length ≤ c) (hd : k.claims.length ≤ d) (hb : k.items.length ≤ 100000) (hb2 : k.claims.length ≤ 100000) (r : Rec) (p q : Nat) (hp : r.items.length = p) (hq : p ≤ q) (hpb : p ≤ 100000) {x : Kept × Int} (hx : Zax k r = x) : Zas Try.prog G 19 [mxV ([Iv k.epoch, Iv k.log, slv 0 0 k.items.length c, slv 1 0 k.claims.length d]), mxV ([Iv r.kind, Iv r.epoch, Iv r.from_] ++ (Zt r.item ++ ([slv 2 0 p q] ++ (Zo r.claim))))] [rwR Zk k.items, rwR Zh k.claims, rwR Zk r.items] (.tuple #[mxV ([Iv x.1.epoch, Iv x.1.log, slv 3 0 x.1.items.length x.1.items.length, slv 4 0 x.1.claims.length x.1.claims.length]), Iv x.2]) [rwR Zk k.items, rwR Zh k.claims, rwR Zk r.items, rwB Zk x.1.items, rwB Zh x.1.claims] := by
 subst hx; exact Zho k c d hc hd hb hb2 r p q hp hq hpb
end Go.Flat
namespace Go.Flat
open Go.Proofs
variable {G : Glob}
theorem Zer {a b : List Item} (h : a = b) : Zcc a b = true := by subst h; exact Zl4 _
end Go.Flat
