/- Walks. -/
import Derived.Test.YtoafdomlefoenaaN5
import Derived.Test.YtoafdomlefoenaaN7
set_option linter.unusedVariables false
set_option linter.unusedSimpArgs false
set_option maxRecDepth 20000
namespace Go.Flat
open Go.Proofs
variable {G : Glob}
theorem Zmg (l : List Claim) (x : Claim) : (Zae l x).1.length ≤ l.length + 1 := by
 unfold Zae
 split
 ·split
  ·split
   ·exact Nat.le_succ _
   ·exact Nat.zero_le _
  ·show (l.take _ ++ x :: l.drop _).length ≤ _; have := Zpv l x; simp; omega
 ·exact Nat.zero_le _
theorem Zsr (l : List Claim) (x : Claim) : 0 ≤ (Zae l x).2 := by
 unfold Zae
 split
 ·split
  ·split
   ·show (0 : Int) ≤ 0; decide
   ·show (0 : Int) ≤ 111; decide
  ·show (0 : Int) ≤ 0; decide
 ·show (0 : Int) ≤ 110; decide
def Ze4 (k : Kept) (r : Rec) : Kept × Int := if (Zae k.claims r.claim).2 = 0 then Zif (⟨k.epoch, k.log, k.items, (Zae k.claims r.claim).1⟩ : Kept) else (k, 140)
theorem Zen {k : Kept} {r : Rec} (h : ¬ (Zae k.claims r.claim).2 = 0) : Ze4 k r = (k, 140) := if_neg h
theorem Zd2 {k : Kept} {r : Rec} (h : (Zae k.claims r.claim).2 = 0) : Ze4 k r = Zif (⟨k.epoch, k.log, k.items, (Zae k.claims r.claim).1⟩ : Kept) := if_pos h
def Zf3 (k : Kept) (r : Rec) : Kept × Int := if r.kind = 4 then Ze4 k r else Zax k r
def Zo (k : Kept) (r : Rec) : Kept × Int :=
  if Za6 k then (if Zaw r then (if (Zf3 k r).2 = 0 then ((Zf3 k r).1, 0) else (⟨0, 0, [], []⟩, (Zf3 k r).2)) else (⟨0, 0, [], []⟩, 140)) else (⟨0, 0, [], []⟩, 1)
section
variable {k : Kept} {r : Rec}
theorem Zcc (h : r.kind = 4) : Zf3 k r = Ze4 k r := if_pos h
theorem Zaa (h : ¬ r.kind = 4) : Zf3 k r = Zax k r := if_neg h
theorem Zty (h : ¬ Za6 k) : Zo k r = (⟨0, 0, [], []⟩, 1) := if_neg h
theorem Zfi (h : Za6 k) (h1 : ¬ Zaw r) : Zo k r = (⟨0, 0, [], []⟩, 140) := by unfold Zo; rw [if_pos h, if_neg h1]
theorem Zpp (h : Za6 k) (h1 : Zaw r) (h2 : ¬ (Zf3 k r).2 = 0) : Zo k r = (⟨0, 0, [], []⟩, (Zf3 k r).2) := by unfold Zo; rw [if_pos h, if_pos h1, if_neg h2]
theorem Ztz (h : Za6 k) (h1 : Zaw r) (h2 : (Zf3 k r).2 = 0) : Zo k r = ((Zf3 k r).1, 0) := by unfold Zo; rw [if_pos h, if_pos h1, if_pos h2]
theorem Zv6 (h : r.kind ≤ 3) : Zo k r = Zdu k r := by
 unfold Zo Zdu; rw [Zaa (by omega)]
theorem Zvi (hq : (Zae k.claims r.claim).2 = 0) : (Ze4 k r).1 = (⟨k.epoch, k.log, k.items, (Zae k.claims r.claim).1⟩ : Kept) := by rw [Zd2 hq]; rfl
theorem Zv5 (h : Za6 k) (h1 : Zaw r) (hk : r.kind = 4) (hq : (Zae k.claims r.claim).2 = 0) (h2 : (Ze4 k r).2 = 0) : Zo k r = ((⟨k.epoch, k.log, k.items, (Zae k.claims r.claim).1⟩ : Kept), 0) := by rw [Ztz h h1 (by rw [Zcc hk]; exact h2), Zcc hk, Zvi hq]
theorem Zmt (h : Za6 k) (h1 : Zaw r) (hk : r.kind = 4) (h2 : ¬ (Ze4 k r).2 = 0) : Zo k r = (⟨0, 0, [], []⟩, (Ze4 k r).2) := by rw [Zpp h h1 (by rw [Zcc hk]; exact h2), Zcc hk]
theorem Zww (h : Zaw r) (h4 : 4 ≤ r.kind) : r.kind = 4 := by have := (Zla h).1; omega
end
abbrev Y32 (k : Kept) : Blk := mxB 4 ([Iv k.epoch, Iv k.log, slv 1 0 k.items.length k.items.length, slv 2 0 k.claims.length k.claims.length])
theorem Zx5 (k : Kept) (r : Rec) (p q : Nat) (hp : r.items.length = p) (hq : p ≤ q) (hpb : p ≤ 100000) (hb : k.items.length ≤ 100000) (hb2 : k.claims.length ≤ 100000) (hk4 : r.kind = 4) (hq : 1 ≤ (Zae k.claims r.claim).2) : Zat Try.prog G 39 [pt 0 0, mxV ([Iv r.kind, Iv r.epoch, Iv r.from_] ++ (Z1 r.item ++ ([slv 3 0 p q] ++ (Zr r.claim))))] [mxB 4 ([Iv k.epoch, Iv k.log, slv 1 0 k.items.length k.items.length, slv 2 0 k.claims.length k.claims.length]), rwR Zj k.items, rwR Zh k.claims, rwR Zj r.items] (Iv 140) [mxB 4 ([Iv k.epoch, Iv k.log, slv 1 0 k.items.length k.items.length, slv 2 0 k.claims.length k.claims.length]), rwR Zj k.items, rwR Zh k.claims, rwR Zj r.items] := by
  refine Zcg (fn := Try.f39) (nt := 134) rfl rfl rfl rfl ?_
  refine Za8 2 (H' := [Y32 k, rwR Zj k.items, rwR Zh k.claims, rwR Zj r.items, hole, hole]) rfl ?_
  refine Zi (Zm (Zbn (v := mxV ([Iv r.kind, Iv r.epoch, Iv r.from_] ++ (Z1 r.item ++ ([slv 3 0 p q] ++ (Zr r.claim))))) (b := mxB 150 ([Iv r.kind, Iv r.epoch, Iv r.from_] ++ (Z1 r.item ++ ([slv 3 0 p q] ++ (Zr r.claim))))) (nid := 5) (H' := [Y32 k, rwR Zj k.items, rwR Zh k.claims, rwR Zj r.items, hole, mxB 150 ([Iv r.kind, Iv r.epoch, Iv r.from_] ++ (Z1 r.item ++ ([slv 3 0 p q] ++ (Zr r.claim))))]) (Zc (Iv 0) (Zd (Ze (Zi (Zi (Zm (Zf (b := 5) (o := 0) (n := 0) (o' := 0) (Zl (p := pt 5 0) (v := Iv r.kind) (Zd (Ze (Zav (Zi (Zm ?_)))))))))))))))
  refine Zn (vx := Iv r.kind) (vy := Iv 1) rfl rfl (.bool false) rfl rfl (Zaq (by omega)) ?_
  refine Zc (.bool false) (Zd (Ze (Zz rfl (Zi (Zm ?_)))))
  refine Zn (vx := Iv r.kind) (vy := Iv 2) rfl rfl (.bool false) rfl rfl (Zaq (by omega)) ?_
  refine Zc (.bool false) (Zd (Ze (Zz rfl (Zi (Zm ?_)))))
  refine Zn (vx := Iv r.kind) (vy := Iv 3) rfl rfl (.bool false) rfl rfl (Zaq (by omega)) ?_
  refine Zc (.bool false) (Zd (Ze (Zz rfl (Zi (Zm ?_)))))
  refine Zn (vx := Iv r.kind) (vy := Iv 4) rfl rfl (.bool true) rfl rfl (Zaj (by omega)) ?_
  refine Zc (.bool true) (Zd (Ze (Z4 rfl (Zi ?_))))
  refine Zel (by kernel_rfl) ?_
  refine Zb (pt 0 0) (Zbl (p := pt 0 0) (v := pt 0 0) (Zf (b := 0) (o := 0) (n := 0) (o' := 0) (Zf (b := 0) (o := 0) (n := 3) (o' := 3) (Zl (p := pt 0 3) (v := slv 2 0 k.claims.length k.claims.length) (Zf (b := 5) (o := 0) (n := 114) (o' := 114) (Zl (p := pt 5 114) (v := Zx r.claim) ?_))))))
  have hrl2 := Zmg k.claims r.claim
  refine Zab (e := [some (2, 0)]) (nid := 4) (Zn1 (G := G) k.claims k.claims.length k.claims.length rfl (by omega) (by omega) r.claim) (vals := [slv 2 0 k.claims.length k.claims.length, Zx r.claim]) (v := .tuple #[slv 4 0 ((Zae k.claims r.claim).1.length) ((Zae k.claims r.claim).1.length), Iv ((Zae k.claims r.claim).2)]) (H' := [Y32 k, rwR Zj k.items, rwR Zh k.claims, rwR Zj r.items, rwB Zh ((Zae k.claims r.claim).1), mxB 150 ([Iv r.kind, Iv r.epoch, Iv r.from_] ++ (Z1 r.item ++ ([slv 3 0 p q] ++ (Zr r.claim))))]) rfl rfl rfl rfl rfl rfl rfl ⟨⟨⟨rfl, rfl, rfl, by first | omega | exact Nat.le_refl _, by first | omega | exact Nat.le_refl _⟩, (Zgw (by kernel_rfl) rfl), trivial⟩, ⟨(Zaf rfl), trivial⟩, rfl, rfl, rfl⟩ (by kernel_rfl) (by kernel_rfl) ?_
  refine Zb (.tuple #[slv 4 0 ((Zae k.claims r.claim).1.length) ((Zae k.claims r.claim).1.length), Iv ((Zae k.claims r.claim).2)]) (Za2 (vs := #[slv 4 0 ((Zae k.claims r.claim).1.length) ((Zae k.claims r.claim).1.length), Iv ((Zae k.claims r.claim).2)]) (v := slv 4 0 ((Zae k.claims r.claim).1.length) ((Zae k.claims r.claim).1.length)) (Za2 (vs := #[slv 4 0 ((Zae k.claims r.claim).1.length) ((Zae k.claims r.claim).1.length), Iv ((Zae k.claims r.claim).2)]) (v := Iv ((Zae k.claims r.claim).2)) (Zc (slv 4 0 ((Zae k.claims r.claim).1.length) ((Zae k.claims r.claim).1.length)) (Zc (Iv ((Zae k.claims r.claim).2)) ?_))))
  refine Zb6 (Zay [[], [0], [0, 1], [0, 1, 2], [0, 1, 2, 3], [], [5], [0, 1, 2, 3, 4, 5, 6], [0, 1, 2, 3, 4, 5, 6, 7], [0, 1, 2, 3, 4, 5, 6, 7, 8], [0, 1, 2, 3, 4, 5, 6, 7, 8], [0, 1, 2, 3, 4, 5, 6, 7, 8, 9], [0, 1, 2, 3, 4, 5, 6, 7, 8, 9, 10, 11]] (by kernel_rfl) (by kernel_rfl)) ?_
  refine Ze (Zi (Zi (Zm (Zb (Iv ((Zae k.claims r.claim).2)) ?_))))
  refine Zn (vx := Iv ((Zae k.claims r.claim).2)) (vy := Iv 0) rfl rfl (.bool true) rfl rfl (Zd5 (by omega)) ?_
  refine Zd (Ze (Z4 rfl (Zi (Zm (Zc (Iv 140) (Zd (Ze (Zs (Zv (Zy (Zv (Zq ?_))))))))))))
  exact Zk (v := Iv 140) rfl rfl rfl (by kernel_rfl) rfl
abbrev Y33 (k : Kept) : Blk := mxB 4 ([Iv k.epoch, Iv k.log, slv 1 0 k.items.length k.items.length, slv 2 0 k.claims.length k.claims.length])
abbrev Y34 (r : Rec) (p : Nat) (q : Nat) : Blk := mxB 150 ([Iv r.kind, Iv r.epoch, Iv r.from_] ++ (Z1 r.item ++ ([slv 3 0 p q] ++ (Zr r.claim))))
theorem Zx6 (k : Kept) (r : Rec) (p q : Nat) (hp : r.items.length = p) (hq : p ≤ q) (hpb : p ≤ 100000) (hb : k.items.length ≤ 100000) (hb2 : k.claims.length ≤ 100000) (hk4 : r.kind = 4) (hq : (Zae k.claims r.claim).2 = 0) : Zat Try.prog G 39 [pt 0 0, mxV ([Iv r.kind, Iv r.epoch, Iv r.from_] ++ (Z1 r.item ++ ([slv 3 0 p q] ++ (Zr r.claim))))] [mxB 4 ([Iv k.epoch, Iv k.log, slv 1 0 k.items.length k.items.length, slv 2 0 k.claims.length k.claims.length]), rwR Zj k.items, rwR Zh k.claims, rwR Zj r.items] (Iv (Ze4 k r).2) [mxB 4 ([Iv k.epoch, Iv k.log, slv 1 0 k.items.length k.items.length, slv 4 0 ((Zae k.claims r.claim).1.length) ((Zae k.claims r.claim).1.length)]), rwR Zj k.items, rwR Zh k.claims, rwR Zj r.items, rwB Zh (Zae k.claims r.claim).1] := by
  refine Zcg (fn := Try.f39) (nt := 134) rfl rfl rfl rfl ?_
  refine Za8 2 (H' := [Y33 k, rwR Zj k.items, rwR Zh k.claims, rwR Zj r.items, hole, hole]) rfl ?_
  refine Zi (Zm (Zbn (v := mxV ([Iv r.kind, Iv r.epoch, Iv r.from_] ++ (Z1 r.item ++ ([slv 3 0 p q] ++ (Zr r.claim))))) (b := mxB 150 ([Iv r.kind, Iv r.epoch, Iv r.from_] ++ (Z1 r.item ++ ([slv 3 0 p q] ++ (Zr r.claim))))) (nid := 5) (H' := [Y33 k, rwR Zj k.items, rwR Zh k.claims, rwR Zj r.items, hole, Y34 r p q]) (Zc (Iv 0) (Zd (Ze (Zi (Zi (Zm (Zf (b := 5) (o := 0) (n := 0) (o' := 0) (Zl (p := pt 5 0) (v := Iv r.kind) (Zd (Ze (Zav (Zi (Zm ?_)))))))))))))))
  refine Zn (vx := Iv r.kind) (vy := Iv 1) rfl rfl (.bool false) rfl rfl (Zaq (by omega)) ?_
  refine Zc (.bool false) (Zd (Ze (Zz rfl (Zi (Zm ?_)))))
  refine Zn (vx := Iv r.kind) (vy := Iv 2) rfl rfl (.bool false) rfl rfl (Zaq (by omega)) ?_
  refine Zc (.bool false) (Zd (Ze (Zz rfl (Zi (Zm ?_)))))
  refine Zn (vx := Iv r.kind) (vy := Iv 3) rfl rfl (.bool false) rfl rfl (Zaq (by omega)) ?_
  refine Zc (.bool false) (Zd (Ze (Zz rfl (Zi (Zm ?_)))))
  refine Zn (vx := Iv r.kind) (vy := Iv 4) rfl rfl (.bool true) rfl rfl (Zaj (by omega)) ?_
  refine Zc (.bool true) (Zd (Ze (Z4 rfl (Zi ?_))))
  refine Zel (by kernel_rfl) ?_
  refine Zb (pt 0 0) (Zbl (p := pt 0 0) (v := pt 0 0) (Zf (b := 0) (o := 0) (n := 0) (o' := 0) (Zf (b := 0) (o := 0) (n := 3) (o' := 3) (Zl (p := pt 0 3) (v := slv 2 0 k.claims.length k.claims.length) (Zf (b := 5) (o := 0) (n := 114) (o' := 114) (Zl (p := pt 5 114) (v := Zx r.claim) ?_))))))
  have hrl2 := Zmg k.claims r.claim
  refine Zab (e := [some (2, 0)]) (nid := 4) (Zn1 (G := G) k.claims k.claims.length k.claims.length rfl (by omega) (by omega) r.claim) (vals := [slv 2 0 k.claims.length k.claims.length, Zx r.claim]) (v := .tuple #[slv 4 0 ((Zae k.claims r.claim).1.length) ((Zae k.claims r.claim).1.length), Iv ((Zae k.claims r.claim).2)]) (H' := [Y33 k, rwR Zj k.items, rwR Zh k.claims, rwR Zj r.items, rwB Zh ((Zae k.claims r.claim).1), Y34 r p q]) rfl rfl rfl rfl rfl rfl rfl ⟨⟨⟨rfl, rfl, rfl, by first | omega | exact Nat.le_refl _, by first | omega | exact Nat.le_refl _⟩, (Zgw (by kernel_rfl) rfl), trivial⟩, ⟨(Zaf rfl), trivial⟩, rfl, rfl, rfl⟩ (by kernel_rfl) (by kernel_rfl) ?_
  refine Zb (.tuple #[slv 4 0 ((Zae k.claims r.claim).1.length) ((Zae k.claims r.claim).1.length), Iv ((Zae k.claims r.claim).2)]) (Za2 (vs := #[slv 4 0 ((Zae k.claims r.claim).1.length) ((Zae k.claims r.claim).1.length), Iv ((Zae k.claims r.claim).2)]) (v := slv 4 0 ((Zae k.claims r.claim).1.length) ((Zae k.claims r.claim).1.length)) (Za2 (vs := #[slv 4 0 ((Zae k.claims r.claim).1.length) ((Zae k.claims r.claim).1.length), Iv ((Zae k.claims r.claim).2)]) (v := Iv ((Zae k.claims r.claim).2)) (Zc (slv 4 0 ((Zae k.claims r.claim).1.length) ((Zae k.claims r.claim).1.length)) (Zc (Iv ((Zae k.claims r.claim).2)) ?_))))
  refine Zb6 (Zay [[], [0], [0, 1], [0, 1, 2], [0, 1, 2, 3], [], [5], [0, 1, 2, 3, 4, 5, 6], [0, 1, 2, 3, 4, 5, 6, 7], [0, 1, 2, 3, 4, 5, 6, 7, 8], [0, 1, 2, 3, 4, 5, 6, 7, 8], [0, 1, 2, 3, 4, 5, 6, 7, 8, 9], [0, 1, 2, 3, 4, 5, 6, 7, 8, 9, 10, 11]] (by kernel_rfl) (by kernel_rfl)) ?_
  refine Ze (Zi (Zi (Zm (Zb (Iv ((Zae k.claims r.claim).2)) ?_))))
  refine Zn (vx := Iv ((Zae k.claims r.claim).2)) (vy := Iv 0) rfl rfl (.bool false) rfl rfl (Zd4 (by omega)) ?_
  refine Zd (Ze (Zz rfl (Z9 (Ze (Zm (Zb (pt 0 0) (Zb (slv 4 0 ((Zae k.claims r.claim).1.length) ((Zae k.claims r.claim).1.length)) (Zbl (p := pt 0 0) (v := pt 0 0) (Zf (b := 0) (o := 0) (n := 0) (o' := 0) (Zf (b := 0) (o := 0) (n := 3) (o' := 3) (Z5 (p := pt 0 3) (v := slv 4 0 ((Zae k.claims r.claim).1.length) ((Zae k.claims r.claim).1.length)) (b := 0) (blk := mxB 4 ([Iv k.epoch, Iv k.log, slv 1 0 k.items.length k.items.length, slv 4 0 ((Zae k.claims r.claim).1.length) ((Zae k.claims r.claim).1.length)])) (H' := [mxB 4 ([Iv k.epoch, Iv k.log, slv 1 0 k.items.length k.items.length, slv 4 0 ((Zae k.claims r.claim).1.length) ((Zae k.claims r.claim).1.length)]), rwR Zj k.items, rwR Zh k.claims, rwR Zj r.items, rwB Zh ((Zae k.claims r.claim).1), Y34 r p q]) (Zd (Z7 (Ze (Zi (Zi (Zm (Zb (pt 0 0) (Zbl (p := pt 0 0) (v := pt 0 0) (Zf (b := 0) (o := 0) (n := 0) (o' := 0) (Zl (p := pt 0 0) (v := mxV ([Iv k.epoch, Iv k.log, slv 1 0 k.items.length k.items.length, slv 4 0 ((Zae k.claims r.claim).1.length) ((Zae k.claims r.claim).1.length)])) ?_)))))))))))))))))))))
  refine Zab (e := [some (1, 0), some (4, 0)]) (nid := 0) (Ze5 (G := G) (⟨k.epoch, k.log, k.items, (Zae k.claims r.claim).1⟩ : Kept) k.items.length k.items.length ((Zae k.claims r.claim).1.length) ((Zae k.claims r.claim).1.length) rfl rfl (by omega) (by omega) (by omega) (by omega)) (vals := [mxV ([Iv k.epoch, Iv k.log, slv 1 0 k.items.length k.items.length, slv 4 0 ((Zae k.claims r.claim).1.length) ((Zae k.claims r.claim).1.length)])]) (v := Iv (Zd8 (⟨k.epoch, k.log, k.items, (Zae k.claims r.claim).1⟩ : Kept))) (H' := [mxB 4 ([Iv k.epoch, Iv k.log, slv 1 0 k.items.length k.items.length, slv 4 0 ((Zae k.claims r.claim).1.length) ((Zae k.claims r.claim).1.length)]), rwR Zj k.items, rwR Zh k.claims, rwR Zj r.items, rwB Zh ((Zae k.claims r.claim).1), Y34 r p q]) rfl rfl rfl rfl rfl rfl rfl ⟨⟨(Zah (by kernel_rfl) ⟨⟨rfl, rfl⟩, ⟨rfl, rfl⟩, ⟨rfl, rfl, rfl, by first | omega | exact Nat.le_refl _, by first | omega | exact Nat.le_refl _⟩, ⟨rfl, rfl, rfl, by first | omega | exact Nat.le_refl _, by first | omega | exact Nat.le_refl _⟩, trivial⟩), trivial⟩, ⟨(Zaf rfl), (Zbd rfl), trivial⟩, rfl, rfl, rfl⟩ rfl (by kernel_rfl) ?_
  by_cases h1 : (Zd8 (⟨k.epoch, k.log, k.items, (Zae k.claims r.claim).1⟩ : Kept)) ≠ 0
  refine Zn (vx := Iv (Zd8 (⟨k.epoch, k.log, k.items, (Zae k.claims r.claim).1⟩ : Kept))) (vy := Iv 0) rfl rfl (.bool true) rfl rfl (Zd5 (by omega)) ?_
  refine Zd (Ze (Z4 rfl (Zi (Zm (Zc (Iv 140) (Zd (Ze (Zs (Zv (Zq ?_))))))))))
  rw [show (Ze4 k r).2 = 140 from by rw [Zd2 hq]; exact congrArg Prod.snd (Zei (Zby (by omega)))]
  exact Zk (v := Iv 140) rfl rfl rfl (by kernel_rfl) rfl
  refine Zn (vx := Iv (Zd8 (⟨k.epoch, k.log, k.items, (Zae k.claims r.claim).1⟩ : Kept))) (vy := Iv 0) rfl rfl (.bool false) rfl rfl (Zd4 (by omega)) ?_
  refine Zd (Ze (Zz rfl (Z9 (Ze (Zi (Zm (Zc (Iv 0) (Zd (Ze (Zs (Zq ?_)))))))))))
  rw [show (Ze4 k r).2 = 0 from by rw [Zd2 hq]; exact congrArg Prod.snd (Zin (Zcs (by omega)))]
  exact Zk (v := Iv 0) rfl rfl rfl (by kernel_rfl) rfl
abbrev Y35 (k : Kept) (c : Nat) (d : Nat) : Blk := mxB 4 ([Iv k.epoch, Iv k.log, slv 0 0 k.items.length c, slv 1 0 k.claims.length d])
abbrev Y36 (r : Rec) (p : Nat) (q : Nat) : Blk := mxB 150 ([Iv r.kind, Iv r.epoch, Iv r.from_] ++ (Z1 r.item ++ ([slv 2 0 p q] ++ (Zr r.claim))))
abbrev Y37  : Blk := mxB 4 ([Iv 0, Iv 0, .slice none 0 0, .slice none 0 0])
abbrev Y38 (k : Kept) : Blk := mxB 4 ([Iv k.epoch, Iv k.log, slv 6 0 k.items.length k.items.length, slv 7 0 k.claims.length k.claims.length])
abbrev Y39 (k : Kept) (r : Rec) : Blk := mxB 4 ([Iv k.epoch, Iv k.log, slv 6 0 k.items.length k.items.length, slv 9 0 ((Zae k.claims r.claim).1.length) ((Zae k.claims r.claim).1.length)])
theorem Zvl (k : Kept) (c d : Nat) (hc : k.items.length ≤ c) (hd : k.claims.length ≤ d) (hb : k.items.length ≤ 100000) (hb2 : k.claims.length ≤ 100000) (r : Rec) (p q : Nat) (hp : r.items.length = p) (hq : p ≤ q) (hpb : p ≤ 100000) (hk4 : 4 ≤ r.kind) : Zat Try.prog G 19 [mxV ([Iv k.epoch, Iv k.log, slv 0 0 k.items.length c, slv 1 0 k.claims.length d]), mxV ([Iv r.kind, Iv r.epoch, Iv r.from_] ++ (Z1 r.item ++ ([slv 2 0 p q] ++ (Zr r.claim))))] [rwR Zj k.items, rwR Zh k.claims, rwR Zj r.items] (.tuple #[mxV ([Iv ((Zo k r).1.epoch), Iv ((Zo k r).1.log), slv 3 0 ((Zo k r).1.items.length) ((Zo k r).1.items.length), slv 4 0 ((Zo k r).1.claims.length) ((Zo k r).1.claims.length)]), Iv (Zo k r).2]) [rwR Zj k.items, rwR Zh k.claims, rwR Zj r.items, rwB Zj (Zo k r).1.items, rwB Zh (Zo k r).1.claims] := by
  refine Zcg (fn := Try.f19) (nt := 42) rfl rfl rfl rfl ?_
  refine Za8 9 (H' := [rwR Zj k.items, rwR Zh k.claims, rwR Zj r.items, hole, hole, hole, hole, hole, hole, hole, hole, hole]) rfl ?_
  refine Zi (Zm (Zbn (v := mxV ([Iv k.epoch, Iv k.log, slv 0 0 k.items.length c, slv 1 0 k.claims.length d])) (b := mxB 4 ([Iv k.epoch, Iv k.log, slv 0 0 k.items.length c, slv 1 0 k.claims.length d])) (nid := 3) (H' := [rwR Zj k.items, rwR Zh k.claims, rwR Zj r.items, Y35 k c d, hole, hole, hole, hole, hole, hole, hole, hole]) (Zbn (v := mxV ([Iv r.kind, Iv r.epoch, Iv r.from_] ++ (Z1 r.item ++ ([slv 2 0 p q] ++ (Zr r.claim))))) (b := mxB 150 ([Iv r.kind, Iv r.epoch, Iv r.from_] ++ (Z1 r.item ++ ([slv 2 0 p q] ++ (Zr r.claim))))) (nid := 4) (H' := [rwR Zj k.items, rwR Zh k.claims, rwR Zj r.items, Y35 k c d, Y36 r p q, hole, hole, hole, hole, hole, hole, hole]) (Zbf (b := mxB 4 ([Iv 0, Iv 0, .slice none 0 0, .slice none 0 0])) (nid := 5) (H' := [rwR Zj k.items, rwR Zh k.claims, rwR Zj r.items, Y35 k c d, Y36 r p q, Y37, hole, hole, hole, hole, hole, hole]) (Zc (Iv 0) (Zd (Ze (Zi (Zav (Zi (Zm (Zl (p := pt 3 0) (v := mxV ([Iv k.epoch, Iv k.log, slv 0 0 k.items.length c, slv 1 0 k.claims.length d])) ?_))))))))))))
  refine Zab (e := [some (0, 0), some (1, 0)]) (nid := 0) (Ze5 (G := G) k k.items.length c k.claims.length d rfl rfl (by omega) (by omega) (by omega) (by omega)) (vals := [mxV ([Iv k.epoch, Iv k.log, slv 0 0 k.items.length c, slv 1 0 k.claims.length d])]) (v := Iv (Zd8 k)) (H' := [rwR Zj k.items, rwR Zh k.claims, rwR Zj r.items, Y35 k c d, Y36 r p q, Y37, hole, hole, hole, hole, hole, hole]) rfl rfl rfl rfl rfl rfl rfl ⟨⟨(Zah (by kernel_rfl) ⟨⟨rfl, rfl⟩, ⟨rfl, rfl⟩, ⟨rfl, rfl, rfl, by first | omega | exact Nat.le_refl _, by first | omega | exact Nat.le_refl _⟩, ⟨rfl, rfl, rfl, by first | omega | exact Nat.le_refl _, by first | omega | exact Nat.le_refl _⟩, trivial⟩), trivial⟩, ⟨(Zaf rfl), (Zaf rfl), trivial⟩, rfl, rfl, rfl⟩ rfl (by kernel_rfl) ?_
  by_cases h1 : (Zd8 k) ≠ 0
  refine Zn (vx := Iv (Zd8 k)) (vy := Iv 0) rfl rfl (.bool true) rfl rfl (Zd5 (by omega)) ?_
  refine Zc (.bool true) (Zd (Ze (Z4 rfl (Zi (Zm ?_)))))
  refine Za0 (vs := []) (v := mxV ([Iv 0, Iv 0, .slice none 0 0, .slice none 0 0])) rfl rfl rfl (by kernel_rfl) ?_
  refine Z5 (p := pt 5 0) (v := mxV ([Iv 0, Iv 0, .slice none 0 0, .slice none 0 0])) (b := 5) (blk := mxB 4 ([Iv 0, Iv 0, .slice none 0 0, .slice none 0 0])) (H' := [rwR Zj k.items, rwR Zh k.claims, rwR Zj r.items, Y35 k c d, Y36 r p q, Y37, hole, hole, hole, hole, hole, hole]) (Zc (Iv 1) (Zd (Ze ?_)))
  refine Zbh (Zbz.nilCell (k := 5) (j := 2) (b := 6) true 110 rfl (by decide) rfl (by show 0 < 4; decide) rfl rfl) ?_
  refine Zbh (Zbz.nilCell (k := 5) (j := 3) (b := 7) true 36 rfl (by decide) rfl (by show 0 < 4; decide) rfl rfl) ?_
  refine Zs (Zy (Zv (Zq ?_)))
  rw [show Zo k r = (⟨0, 0, [], []⟩, 1) from Zty (Zby (by omega))]
  exact Zar [0, 1, 2, 6, 7] (v := .tuple #[mxV ([Iv 0, Iv 0, slv 6 0 0 0, slv 7 0 0 0]), Iv 1]) rfl (by kernel_rfl) rfl rfl (by decide) (by simp [Zbr, rwB, rwR, Zj, Zh]) ⟨(Zah (by kernel_rfl) ⟨⟨rfl, rfl⟩, ⟨rfl, rfl⟩, ⟨rfl, rfl, rfl, by first | omega | exact Nat.le_refl _ | exact Nat.zero_le _ | (dsimp only; omega), by first | omega | exact Nat.le_refl _ | exact Nat.zero_le _ | (dsimp only; omega)⟩, ⟨rfl, rfl, rfl, by first | omega | exact Nat.le_refl _ | exact Nat.zero_le _ | (dsimp only; omega), by first | omega | exact Nat.le_refl _ | exact Nat.zero_le _ | (dsimp only; omega)⟩, trivial⟩), rfl, trivial⟩
  refine Zn (vx := Iv (Zd8 k)) (vy := Iv 0) rfl rfl (.bool false) rfl rfl (Zd4 (by omega)) ?_
  refine Zc (.bool false) (Zd (Ze (Zz rfl (Zi (Zm (Zl (p := pt 4 0) (v := mxV ([Iv r.kind, Iv r.epoch, Iv r.from_] ++ (Z1 r.item ++ ([slv 2 0 p q] ++ (Zr r.claim))))) ?_))))))
  refine Zab (e := [some (2, 0)]) (nid := 0) (Zt5 (G := G) r p q hp (by omega) (by omega)) (vals := [mxV ([Iv r.kind, Iv r.epoch, Iv r.from_] ++ (Z1 r.item ++ ([slv 2 0 p q] ++ (Zr r.claim))))]) (v := .bool (decide (Zaw r))) (H' := [rwR Zj k.items, rwR Zh k.claims, rwR Zj r.items, Y35 k c d, Y36 r p q, Y37, hole, hole, hole, hole, hole, hole]) rfl rfl rfl rfl rfl rfl rfl ⟨⟨(Zah (by kernel_rfl) (Zac ⟨⟨rfl, rfl⟩, ⟨rfl, rfl⟩, ⟨rfl, rfl⟩, trivial⟩ (Zac (Zap (by kernel_rfl)) (Zac ⟨⟨rfl, rfl, rfl, by first | omega | exact Nat.le_refl _, by first | omega | exact Nat.le_refl _⟩, trivial⟩ (Zap (by kernel_rfl)))))), trivial⟩, ⟨(Zaf rfl), trivial⟩, rfl, rfl, rfl⟩ rfl (by kernel_rfl) ?_
  rcases Bool.eq_false_or_eq_true (decide (Zaw r)) with h2 | h2
  refine Zcx (vx := .bool (decide (Zaw r))) rfl rfl (.bool false) rfl (Eq.trans Za3 (congrArg (fun b => some (Value.bool !b)) h2)) ?_
  refine Zc (.bool false) (Zd (Ze (Zz rfl (Z9 (Z7 (Ze (Zi ?_)))))))
  refine Zel (by kernel_rfl) ?_
  refine Zf (b := 3) (o := 0) (n := 2) (o' := 2) (Zl (p := pt 3 2) (v := slv 0 0 k.items.length c) ?_)
  refine Zab (e := [some (0, 0)]) (nid := 6) (Zny (G := G) k.items k.items.length c rfl (by omega) (by omega)) (vals := [slv 0 0 k.items.length c]) (v := slv 6 0 k.items.length k.items.length) (H' := [rwR Zj k.items, rwR Zh k.claims, rwR Zj r.items, Y35 k c d, Y36 r p q, Y37, rwB Zj k.items, hole, hole, hole, hole, hole]) rfl rfl rfl rfl rfl rfl rfl ⟨⟨⟨rfl, rfl, rfl, by first | omega | exact Nat.le_refl _, by first | omega | exact Nat.le_refl _⟩, trivial⟩, ⟨(Zaf rfl), trivial⟩, rfl, rfl, rfl⟩ (by kernel_rfl) (by kernel_rfl) ?_
  refine Zf (b := 3) (o := 0) (n := 3) (o' := 3) (Zl (p := pt 3 3) (v := slv 1 0 k.claims.length d) ?_)
  refine Zab (e := [some (1, 0)]) (nid := 7) (Zi3 (G := G) k.claims k.claims.length d rfl (by omega) (by omega)) (vals := [slv 1 0 k.claims.length d]) (v := slv 7 0 k.claims.length k.claims.length) (H' := [rwR Zj k.items, rwR Zh k.claims, rwR Zj r.items, Y35 k c d, Y36 r p q, Y37, rwB Zj k.items, rwB Zh k.claims, hole, hole, hole, hole]) rfl rfl rfl rfl rfl rfl rfl ⟨⟨⟨rfl, rfl, rfl, by first | omega | exact Nat.le_refl _, by first | omega | exact Nat.le_refl _⟩, trivial⟩, ⟨(Zaf rfl), trivial⟩, rfl, rfl, rfl⟩ (by kernel_rfl) (by kernel_rfl) ?_
  refine Zf (b := 3) (o := 0) (n := 2) (o' := 2) (Z5 (p := pt 3 2) (v := slv 6 0 k.items.length k.items.length) (b := 3) (blk := mxB 4 ([Iv k.epoch, Iv k.log, slv 6 0 k.items.length k.items.length, slv 1 0 k.claims.length d])) (H' := [rwR Zj k.items, rwR Zh k.claims, rwR Zj r.items, mxB 4 ([Iv k.epoch, Iv k.log, slv 6 0 k.items.length k.items.length, slv 1 0 k.claims.length d]), Y36 r p q, Y37, rwB Zj k.items, rwB Zh k.claims, hole, hole, hole, hole]) (Zf (b := 3) (o := 0) (n := 3) (o' := 3) (Z5 (p := pt 3 3) (v := slv 7 0 k.claims.length k.claims.length) (b := 3) (blk := mxB 4 ([Iv k.epoch, Iv k.log, slv 6 0 k.items.length k.items.length, slv 7 0 k.claims.length k.claims.length])) (H' := [rwR Zj k.items, rwR Zh k.claims, rwR Zj r.items, Y38 k, Y36 r p q, Y37, rwB Zj k.items, rwB Zh k.claims, hole, hole, hole, hole]) ?_)))
  refine Zb6 (Zay [[], [0], [0, 1], [], [3], [0, 1, 2, 3, 4], [0, 1, 2, 3, 4], [0, 1, 2, 3, 4, 5, 6], [0, 1, 2, 3, 4, 5, 6, 7], [0, 1, 2, 3, 4, 5, 6, 7, 8]] (by kernel_rfl) (by kernel_rfl)) ?_
  refine Ze (Zi (Zm (Zl (p := pt 3 0) (v := mxV ([Iv k.epoch, Iv k.log, slv 6 0 k.items.length k.items.length, slv 7 0 k.claims.length k.claims.length])) ?_)))
  refine Za0 (vs := [(0, mxV ([Iv k.epoch, Iv k.log, slv 6 0 k.items.length k.items.length, slv 7 0 k.claims.length k.claims.length]))]) (v := mxV ([Iv k.epoch, Iv k.log, slv 6 0 k.items.length k.items.length, slv 7 0 k.claims.length k.claims.length])) rfl rfl rfl (by kernel_rfl) ?_
  refine Zbn (v := mxV ([Iv k.epoch, Iv k.log, slv 6 0 k.items.length k.items.length, slv 7 0 k.claims.length k.claims.length])) (b := mxB 4 ([Iv k.epoch, Iv k.log, slv 6 0 k.items.length k.items.length, slv 7 0 k.claims.length k.claims.length])) (nid := 8) (H' := [rwR Zj k.items, rwR Zh k.claims, rwR Zj r.items, Y38 k, Y36 r p q, Y37, rwB Zj k.items, rwB Zh k.claims, Y38 k, hole, hole, hole]) (Zc (pt 8 0) (Zd (Ze (Zi (Zm (Zc (.func (.func 39) #[] #[]) (Zd (Ze (Zi (Zi (Zm (Zb (.func (.func 39) #[] #[]) (Zb (pt 8 0) (Zl (p := pt 4 0) (v := mxV ([Iv r.kind, Iv r.epoch, Iv r.from_] ++ (Z1 r.item ++ ([slv 2 0 p q] ++ (Zr r.claim))))) ?_))))))))))))))
  by_cases h3 : ((Zae k.claims r.claim).2) ≤ 0
  have hnn6 := Zsr k.claims r.claim
  have hmy6 := Zww (of_decide_eq_true (by assumption : decide (Zaw r) = true)) hk4
  refine Zab (e := [some (8, 0), some (6, 0), some (7, 0), some (2, 0)]) (nid := 9) (Zx6 (G := G) k r p q hp (by omega) (by omega) (by omega) (by omega) hmy6 (by omega)) (vals := [pt 8 0, mxV ([Iv r.kind, Iv r.epoch, Iv r.from_] ++ (Z1 r.item ++ ([slv 2 0 p q] ++ (Zr r.claim))))]) (v := Iv ((Ze4 k r).2)) (H' := [rwR Zj k.items, rwR Zh k.claims, rwR Zj r.items, Y38 k, Y36 r p q, Y37, rwB Zj k.items, rwB Zh k.claims, Y39 k r, rwB Zh ((Zae k.claims r.claim).1), hole, hole]) rfl rfl rfl rfl rfl rfl rfl ⟨⟨⟨rfl, rfl⟩, (Zah (by kernel_rfl) (Zac ⟨⟨rfl, rfl⟩, ⟨rfl, rfl⟩, ⟨rfl, rfl⟩, trivial⟩ (Zac (Zap (by kernel_rfl)) (Zac ⟨⟨rfl, rfl, rfl, by first | omega | exact Nat.le_refl _, by first | omega | exact Nat.le_refl _⟩, trivial⟩ (Zap (by kernel_rfl)))))), trivial⟩, ⟨(Zil (B := mxB 4 ([Iv k.epoch, Iv k.log, slv 6 0 k.items.length k.items.length, slv 7 0 k.claims.length k.claims.length])) (by kernel_rfl) rfl rfl (by kernel_rfl)), (Zbd rfl), (Zbd rfl), (Zaf rfl), trivial⟩, rfl, rfl, rfl⟩ rfl (by kernel_rfl) ?_
  refine Zc (Iv ((Ze4 k r).2)) (Zd (Ze (Zi (Zm (Zb (Iv ((Ze4 k r).2)) ?_)))))
  by_cases h4 : ((Ze4 k r).2) ≠ 0
  refine Zn (vx := Iv ((Ze4 k r).2)) (vy := Iv 0) rfl rfl (.bool true) rfl rfl (Zd5 (by omega)) ?_
  refine Zd (Ze (Z4 rfl (Zi (Zm ?_))))
  refine Za0 (vs := []) (v := mxV ([Iv 0, Iv 0, .slice none 0 0, .slice none 0 0])) rfl rfl rfl (by kernel_rfl) ?_
  refine Zb (Iv ((Ze4 k r).2)) (Z5 (p := pt 5 0) (v := mxV ([Iv 0, Iv 0, .slice none 0 0, .slice none 0 0])) (b := 5) (blk := mxB 4 ([Iv 0, Iv 0, .slice none 0 0, .slice none 0 0])) (H' := [rwR Zj k.items, rwR Zh k.claims, rwR Zj r.items, Y38 k, Y36 r p q, Y37, rwB Zj k.items, rwB Zh k.claims, Y39 k r, rwB Zh ((Zae k.claims r.claim).1), hole, hole]) (Zc (Iv ((Ze4 k r).2)) (Zd (Ze ?_))))
  refine Zbh (Zbz.nilCell (k := 5) (j := 2) (b := 10) true 110 rfl (by decide) rfl (by show 0 < 4; decide) rfl rfl) ?_
  refine Zbh (Zbz.nilCell (k := 5) (j := 3) (b := 11) true 36 rfl (by decide) rfl (by show 0 < 4; decide) rfl rfl) ?_
  refine Zs (Zv (Zq ?_))
  rw [show Zo k r = (⟨0, 0, [], []⟩, (Ze4 k r).2) from Zmt (Zcs (by omega)) (of_decide_eq_true (by assumption)) (by omega) (by omega)]
  exact Zar [0, 1, 2, 10, 11] (v := .tuple #[mxV ([Iv 0, Iv 0, slv 10 0 0 0, slv 11 0 0 0]), Iv ((Ze4 k r).2)]) rfl (by kernel_rfl) rfl rfl (by decide) (by simp [Zbr, rwB, rwR, Zj, Zh]) ⟨(Zah (by kernel_rfl) ⟨⟨rfl, rfl⟩, ⟨rfl, rfl⟩, ⟨rfl, rfl, rfl, by first | omega | exact Nat.le_refl _ | exact Nat.zero_le _ | (dsimp only; omega), by first | omega | exact Nat.le_refl _ | exact Nat.zero_le _ | (dsimp only; omega)⟩, ⟨rfl, rfl, rfl, by first | omega | exact Nat.le_refl _ | exact Nat.zero_le _ | (dsimp only; omega), by first | omega | exact Nat.le_refl _ | exact Nat.zero_le _ | (dsimp only; omega)⟩, trivial⟩), rfl, trivial⟩
  refine Zn (vx := Iv ((Ze4 k r).2)) (vy := Iv 0) rfl rfl (.bool false) rfl rfl (Zd4 (by omega)) ?_
  refine Zd (Ze (Zz rfl (Z9 (Ze (Zi (Zm (Zb (pt 8 0) (Zbl (p := pt 8 0) (v := pt 8 0) (Zf (b := 8) (o := 0) (n := 0) (o' := 0) (Zl (p := pt 8 0) (v := mxV ([Iv k.epoch, Iv k.log, slv 6 0 k.items.length k.items.length, slv 9 0 ((Zae k.claims r.claim).1.length) ((Zae k.claims r.claim).1.length)])) (Z5 (p := pt 5 0) (v := mxV ([Iv k.epoch, Iv k.log, slv 6 0 k.items.length k.items.length, slv 9 0 ((Zae k.claims r.claim).1.length) ((Zae k.claims r.claim).1.length)])) (b := 5) (blk := mxB 4 ([Iv k.epoch, Iv k.log, slv 6 0 k.items.length k.items.length, slv 9 0 ((Zae k.claims r.claim).1.length) ((Zae k.claims r.claim).1.length)])) (H' := [rwR Zj k.items, rwR Zh k.claims, rwR Zj r.items, Y38 k, Y36 r p q, Y39 k r, rwB Zj k.items, rwB Zh k.claims, Y39 k r, rwB Zh ((Zae k.claims r.claim).1), hole, hole]) (Zc (Iv 0) (Zd (Ze (Zs (Zq ?_))))))))))))))))
  rw [show Zo k r = ((⟨k.epoch, k.log, k.items, (Zae k.claims r.claim).1⟩ : Kept), 0) from Zv5 (Zcs (by omega)) (of_decide_eq_true (by assumption)) (by omega) (by omega) (by omega)]
  exact Zar [0, 1, 2, 6, 9] (v := .tuple #[mxV ([Iv k.epoch, Iv k.log, slv 6 0 k.items.length k.items.length, slv 9 0 ((Zae k.claims r.claim).1.length) ((Zae k.claims r.claim).1.length)]), Iv 0]) rfl (by kernel_rfl) rfl rfl (by decide) (by simp [Zbr, rwB, rwR, Zj, Zh]) ⟨(Zah (by kernel_rfl) ⟨⟨rfl, rfl⟩, ⟨rfl, rfl⟩, ⟨rfl, rfl, rfl, by first | omega | exact Nat.le_refl _ | exact Nat.zero_le _ | (dsimp only; omega), by first | omega | exact Nat.le_refl _ | exact Nat.zero_le _ | (dsimp only; omega)⟩, ⟨rfl, rfl, rfl, by first | omega | exact Nat.le_refl _ | exact Nat.zero_le _ | (dsimp only; omega), by first | omega | exact Nat.le_refl _ | exact Nat.zero_le _ | (dsimp only; omega)⟩, trivial⟩), rfl, trivial⟩
  have hnn7 := Zsr k.claims r.claim
  have hmy7 := Zww (of_decide_eq_true (by assumption : decide (Zaw r) = true)) hk4
  have hq7 : 1 ≤ (Zae k.claims r.claim).2 := by have := Zsr k.claims r.claim; omega
  refine Zab (e := [some (8, 0), some (6, 0), some (7, 0), some (2, 0)]) (nid := 0) (Zx5 (G := G) k r p q hp (by omega) (by omega) (by omega) (by omega) hmy7 hq7) (vals := [pt 8 0, mxV ([Iv r.kind, Iv r.epoch, Iv r.from_] ++ (Z1 r.item ++ ([slv 2 0 p q] ++ (Zr r.claim))))]) (v := Iv 140) (H' := [rwR Zj k.items, rwR Zh k.claims, rwR Zj r.items, Y38 k, Y36 r p q, Y37, rwB Zj k.items, rwB Zh k.claims, Y38 k, hole, hole, hole]) rfl rfl rfl rfl rfl rfl rfl ⟨⟨⟨rfl, rfl⟩, (Zah (by kernel_rfl) (Zac ⟨⟨rfl, rfl⟩, ⟨rfl, rfl⟩, ⟨rfl, rfl⟩, trivial⟩ (Zac (Zap (by kernel_rfl)) (Zac ⟨⟨rfl, rfl, rfl, by first | omega | exact Nat.le_refl _, by first | omega | exact Nat.le_refl _⟩, trivial⟩ (Zap (by kernel_rfl)))))), trivial⟩, ⟨(Zil (B := mxB 4 ([Iv k.epoch, Iv k.log, slv 6 0 k.items.length k.items.length, slv 7 0 k.claims.length k.claims.length])) (by kernel_rfl) rfl rfl (by kernel_rfl)), (Zbd rfl), (Zbd rfl), (Zaf rfl), trivial⟩, rfl, rfl, rfl⟩ rfl (by kernel_rfl) ?_
  refine Zc (Iv 140) (Zd (Ze (Zi (Zm (Zb (Iv 140) ?_)))))
  refine Zn (vx := Iv 140) (vy := Iv 0) rfl rfl (.bool true) rfl rfl (Zd5 (by omega)) ?_
  refine Zd (Ze (Z4 rfl (Zi (Zm ?_))))
  refine Za0 (vs := []) (v := mxV ([Iv 0, Iv 0, .slice none 0 0, .slice none 0 0])) rfl rfl rfl (by kernel_rfl) ?_
  refine Zb (Iv 140) (Z5 (p := pt 5 0) (v := mxV ([Iv 0, Iv 0, .slice none 0 0, .slice none 0 0])) (b := 5) (blk := mxB 4 ([Iv 0, Iv 0, .slice none 0 0, .slice none 0 0])) (H' := [rwR Zj k.items, rwR Zh k.claims, rwR Zj r.items, Y38 k, Y36 r p q, Y37, rwB Zj k.items, rwB Zh k.claims, Y38 k, hole, hole, hole]) (Zc (Iv 140) (Zd (Ze ?_))))
  refine Zbh (Zbz.nilCell (k := 5) (j := 2) (b := 9) true 110 rfl (by decide) rfl (by show 0 < 4; decide) rfl rfl) ?_
  refine Zbh (Zbz.nilCell (k := 5) (j := 3) (b := 10) true 36 rfl (by decide) rfl (by show 0 < 4; decide) rfl rfl) ?_
  refine Zs (Zv (Zq ?_))
  rw [show Zo k r = (⟨0, 0, [], []⟩, 140) from by first | exact Zfi (Zcs (by omega)) (of_decide_eq_false (by assumption)) | exact (Zmt (Zcs (by omega)) (of_decide_eq_true (by assumption)) (by omega) (by rw [Zen (by omega)]; show ¬ (140 : Int) = 0; decide)).trans (by rw [Zen (by omega)])]
  exact Zar [0, 1, 2, 9, 10] (v := .tuple #[mxV ([Iv 0, Iv 0, slv 9 0 0 0, slv 10 0 0 0]), Iv 140]) rfl (by kernel_rfl) rfl rfl (by decide) (by simp [Zbr, rwB, rwR, Zj, Zh]) ⟨(Zah (by kernel_rfl) ⟨⟨rfl, rfl⟩, ⟨rfl, rfl⟩, ⟨rfl, rfl, rfl, by first | omega | exact Nat.le_refl _ | exact Nat.zero_le _ | (dsimp only; omega), by first | omega | exact Nat.le_refl _ | exact Nat.zero_le _ | (dsimp only; omega)⟩, ⟨rfl, rfl, rfl, by first | omega | exact Nat.le_refl _ | exact Nat.zero_le _ | (dsimp only; omega), by first | omega | exact Nat.le_refl _ | exact Nat.zero_le _ | (dsimp only; omega)⟩, trivial⟩), rfl, trivial⟩
  refine Zcx (vx := .bool (decide (Zaw r))) rfl rfl (.bool true) rfl (Eq.trans Za3 (congrArg (fun b => some (Value.bool !b)) h2)) ?_
  refine Zc (.bool true) (Zd (Ze (Z4 rfl (Zi (Zm ?_)))))
  refine Za0 (vs := []) (v := mxV ([Iv 0, Iv 0, .slice none 0 0, .slice none 0 0])) rfl rfl rfl (by kernel_rfl) ?_
  refine Z5 (p := pt 5 0) (v := mxV ([Iv 0, Iv 0, .slice none 0 0, .slice none 0 0])) (b := 5) (blk := mxB 4 ([Iv 0, Iv 0, .slice none 0 0, .slice none 0 0])) (H' := [rwR Zj k.items, rwR Zh k.claims, rwR Zj r.items, Y35 k c d, Y36 r p q, Y37, hole, hole, hole, hole, hole, hole]) (Zc (Iv 140) (Zd (Ze ?_)))
  refine Zbh (Zbz.nilCell (k := 5) (j := 2) (b := 6) true 110 rfl (by decide) rfl (by show 0 < 4; decide) rfl rfl) ?_
  refine Zbh (Zbz.nilCell (k := 5) (j := 3) (b := 7) true 36 rfl (by decide) rfl (by show 0 < 4; decide) rfl rfl) ?_
  refine Zs (Zy (Zv (Zq ?_)))
  rw [show Zo k r = (⟨0, 0, [], []⟩, 140) from by first | exact Zfi (Zcs (by omega)) (of_decide_eq_false (by assumption)) | exact (Zmt (Zcs (by omega)) (of_decide_eq_true (by assumption)) (by omega) (by rw [Zen (by omega)]; show ¬ (140 : Int) = 0; decide)).trans (by rw [Zen (by omega)])]
  exact Zar [0, 1, 2, 6, 7] (v := .tuple #[mxV ([Iv 0, Iv 0, slv 6 0 0 0, slv 7 0 0 0]), Iv 140]) rfl (by kernel_rfl) rfl rfl (by decide) (by simp [Zbr, rwB, rwR, Zj, Zh]) ⟨(Zah (by kernel_rfl) ⟨⟨rfl, rfl⟩, ⟨rfl, rfl⟩, ⟨rfl, rfl, rfl, by first | omega | exact Nat.le_refl _ | exact Nat.zero_le _ | (dsimp only; omega), by first | omega | exact Nat.le_refl _ | exact Nat.zero_le _ | (dsimp only; omega)⟩, ⟨rfl, rfl, rfl, by first | omega | exact Nat.le_refl _ | exact Nat.zero_le _ | (dsimp only; omega), by first | omega | exact Nat.le_refl _ | exact Nat.zero_le _ | (dsimp only; omega)⟩, trivial⟩), rfl, trivial⟩
theorem Zvm (k : Kept) (c d : Nat) (hc : k.items.length ≤ c) (hd : k.claims.length ≤ d) (hb : k.items.length ≤ 100000) (hb2 : k.claims.length ≤ 100000) (r : Rec) (p q : Nat) (hp : r.items.length = p) (hq : p ≤ q) (hpb : p ≤ 100000) : Zat Try.prog G 19 [mxV ([Iv k.epoch, Iv k.log, slv 0 0 k.items.length c, slv 1 0 k.claims.length d]), mxV ([Iv r.kind, Iv r.epoch, Iv r.from_] ++ (Z1 r.item ++ ([slv 2 0 p q] ++ (Zr r.claim))))] [rwR Zj k.items, rwR Zh k.claims, rwR Zj r.items] (.tuple #[mxV ([Iv ((Zo k r).1.epoch), Iv ((Zo k r).1.log), slv 3 0 ((Zo k r).1.items.length) ((Zo k r).1.items.length), slv 4 0 ((Zo k r).1.claims.length) ((Zo k r).1.claims.length)]), Iv (Zo k r).2]) [rwR Zj k.items, rwR Zh k.claims, rwR Zj r.items, rwB Zj (Zo k r).1.items, rwB Zh (Zo k r).1.claims] := by
 by_cases h : r.kind ≤ 3
 ·rw [Zv6 h]; exact Ztf k c d hc hd hb hb2 r p q hp hq hpb h
 ·exact Zvl k c d hc hd hb hb2 r p q hp hq hpb (by omega)
end Go.Flat
