/- Walks. -/
import Derived.Test.YtoafdomlefoenaaN5
import Derived.Test.YtoafdomlefoenaaN7
set_option linter.unusedVariables false
set_option linter.unusedSimpArgs false
set_option maxRecDepth 20000
namespace Go.Flat
open Go.Proofs
variable {G : Glob}
theorem Zom (l : List Claim) (x : Claim) : (Zaj l x).1.length ≤ l.length + 1 := by
 unfold Zaj
 split
 ·split
  ·split
   ·exact Nat.le_succ _
   ·exact Nat.zero_le _
  ·show (l.take _ ++ x :: l.drop _).length ≤ _; have := Zk7 l x; simp; omega
 ·exact Nat.zero_le _
theorem Zq8 (l : List Claim) (x : Claim) : 0 ≤ (Zaj l x).2 := by
 unfold Zaj
 split
 ·split
  ·split
   ·show (0 : Int) ≤ 0; decide
   ·show (0 : Int) ≤ 111; decide
  ·show (0 : Int) ≤ 0; decide
 ·show (0 : Int) ≤ 110; decide
def Zdy (k : Kept) (r : Rec) : Kept × Int := if (Zaj k.claims r.claim).2 = 0 then Zhd (⟨k.epoch, k.log, k.items, (Zaj k.claims r.claim).1⟩ : Kept) else (k, 140)
theorem Zjx {k : Kept} {r : Rec} (h : ¬ (Zaj k.claims r.claim).2 = 0) : Zdy k r = (k, 140) := if_neg h
theorem Zla {k : Kept} {r : Rec} (h : (Zaj k.claims r.claim).2 = 0) : Zdy k r = Zhd (⟨k.epoch, k.log, k.items, (Zaj k.claims r.claim).1⟩ : Kept) := if_pos h
def Zdn (k : Kept) (r : Rec) : Kept × Int := if r.kind = 4 then Zdy k r else Zac k r
def Zo (k : Kept) (r : Rec) : Kept × Int :=
  if Zb5 k then (if Zbr r then (if (Zdn k r).2 = 0 then ((Zdn k r).1, 0) else (⟨0, 0, [], []⟩, (Zdn k r).2)) else (⟨0, 0, [], []⟩, 140)) else (⟨0, 0, [], []⟩, 1)
section
variable {k : Kept} {r : Rec}
theorem Zjy (h : r.kind = 4) : Zdn k r = Zdy k r := if_pos h
theorem Zsr (h : ¬ r.kind = 4) : Zdn k r = Zac k r := if_neg h
theorem Zn9 (h : ¬ Zb5 k) : Zo k r = (⟨0, 0, [], []⟩, 1) := if_neg h
theorem Zk4 (h : Zb5 k) (h1 : ¬ Zbr r) : Zo k r = (⟨0, 0, [], []⟩, 140) := by unfold Zo; rw [if_pos h, if_neg h1]
theorem Zoa (h : Zb5 k) (h1 : Zbr r) (h2 : ¬ (Zdn k r).2 = 0) : Zo k r = (⟨0, 0, [], []⟩, (Zdn k r).2) := by unfold Zo; rw [if_pos h, if_pos h1, if_neg h2]
theorem Zob (h : Zb5 k) (h1 : Zbr r) (h2 : (Zdn k r).2 = 0) : Zo k r = ((Zdn k r).1, 0) := by unfold Zo; rw [if_pos h, if_pos h1, if_pos h2]
theorem Zuj (h : r.kind ≤ 3) : Zo k r = Zcv k r := by
 unfold Zo Zcv; rw [Zsr (by omega)]
theorem Ztu (hq : (Zaj k.claims r.claim).2 = 0) : (Zdy k r).1 = (⟨k.epoch, k.log, k.items, (Zaj k.claims r.claim).1⟩ : Kept) := by rw [Zla hq]; rfl
theorem Zui (h : Zb5 k) (h1 : Zbr r) (hk : r.kind = 4) (hq : (Zaj k.claims r.claim).2 = 0) (h2 : (Zdy k r).2 = 0) : Zo k r = ((⟨k.epoch, k.log, k.items, (Zaj k.claims r.claim).1⟩ : Kept), 0) := by rw [Zob h h1 (by rw [Zjy hk]; exact h2), Zjy hk, Ztu hq]
theorem Zll (h : Zb5 k) (h1 : Zbr r) (hk : r.kind = 4) (h2 : ¬ (Zdy k r).2 = 0) : Zo k r = (⟨0, 0, [], []⟩, (Zdy k r).2) := by rw [Zoa h h1 (by rw [Zjy hk]; exact h2), Zjy hk]
theorem Zu8 (h : Zbr r) (h4 : 4 ≤ r.kind) : r.kind = 4 := by have := (Zia h).1; omega
end
abbrev Y26 (k : Kept) : Blk := mxB 4 ([Iv k.epoch, Iv k.log, slv 1 0 k.items.length k.items.length, slv 2 0 k.claims.length k.claims.length])
theorem Zwb (k : Kept) (r : Rec) (p q : Nat) (hp : r.items.length = p) (hq : p ≤ q) (hpb : p ≤ 100000) (hb : k.items.length ≤ 100000) (hb2 : k.claims.length ≤ 100000) (hk4 : r.kind = 4) (hq : 1 ≤ (Zaj k.claims r.claim).2) : Zar Try.prog G 39 [pt 0 0, mxV ([Iv r.kind, Iv r.epoch, Iv r.from_] ++ (Zs r.item ++ ([slv 3 0 p q] ++ (Zr r.claim))))] [mxB 4 ([Iv k.epoch, Iv k.log, slv 1 0 k.items.length k.items.length, slv 2 0 k.claims.length k.claims.length]), rwR Zi k.items, rwR Zg k.claims, rwR Zi r.items] (Iv 140) [mxB 4 ([Iv k.epoch, Iv k.log, slv 1 0 k.items.length k.items.length, slv 2 0 k.claims.length k.claims.length]), rwR Zi k.items, rwR Zg k.claims, rwR Zi r.items] := by
  refine Zcu (fn := Try.f39) (nt := 134) rfl rfl rfl rfl ?_
  refine Zbo 2 (H' := [Y26 k, rwR Zi k.items, rwR Zg k.claims, rwR Zi r.items, hole, hole]) rfl ?_
  refine Zj (Zl (Zbx (v := mxV ([Iv r.kind, Iv r.epoch, Iv r.from_] ++ (Zs r.item ++ ([slv 3 0 p q] ++ (Zr r.claim))))) (b := mxB 150 ([Iv r.kind, Iv r.epoch, Iv r.from_] ++ (Zs r.item ++ ([slv 3 0 p q] ++ (Zr r.claim))))) (nid := 5) (H' := [Y26 k, rwR Zi k.items, rwR Zg k.claims, rwR Zi r.items, hole, mxB 150 ([Iv r.kind, Iv r.epoch, Iv r.from_] ++ (Zs r.item ++ ([slv 3 0 p q] ++ (Zr r.claim))))]) (Zc (Iv 0) (Zd (Zf (Zj (Zj (Zl (Ze (b := 5) (o := 0) (n := 0) (o' := 0) (Zk (p := pt 5 0) (v := Iv r.kind) (Zd (Zf (Zbk (Zj (Zl ?_)))))))))))))))
  refine Zn (vx := Iv r.kind) (vy := Iv 1) rfl rfl (.bool false) rfl rfl (Zbj (by omega)) ?_
  refine Zc (.bool false) (Zd (Zf (Zw rfl (Zj (Zl ?_)))))
  refine Zn (vx := Iv r.kind) (vy := Iv 2) rfl rfl (.bool false) rfl rfl (Zbj (by omega)) ?_
  refine Zc (.bool false) (Zd (Zf (Zw rfl (Zj (Zl ?_)))))
  refine Zn (vx := Iv r.kind) (vy := Iv 3) rfl rfl (.bool false) rfl rfl (Zbj (by omega)) ?_
  refine Zc (.bool false) (Zd (Zf (Zw rfl (Zj (Zl ?_)))))
  refine Zn (vx := Iv r.kind) (vy := Iv 4) rfl rfl (.bool true) rfl rfl (Zaw (by omega)) ?_
  refine Zc (.bool true) (Zd (Zf (Z5 rfl (Zj ?_))))
  refine Zep (by kernel_rfl) ?_
  refine Zb (pt 0 0) (Zav (p := pt 0 0) (v := pt 0 0) (Ze (b := 0) (o := 0) (n := 0) (o' := 0) (Ze (b := 0) (o := 0) (n := 3) (o' := 3) (Zk (p := pt 0 3) (v := slv 2 0 k.claims.length k.claims.length) (Ze (b := 5) (o := 0) (n := 114) (o' := 114) (Zk (p := pt 5 114) (v := Zy r.claim) ?_))))))
  have hrl2 := Zom k.claims r.claim
  refine Z7 (e := [some (2, 0)]) (nid := 4) (Zmq (G := G) k.claims k.claims.length k.claims.length rfl (by omega) (by omega) r.claim) (vals := [slv 2 0 k.claims.length k.claims.length, Zy r.claim]) (v := .tuple #[slv 4 0 ((Zaj k.claims r.claim).1.length) ((Zaj k.claims r.claim).1.length), Iv ((Zaj k.claims r.claim).2)]) (H' := [Y26 k, rwR Zi k.items, rwR Zg k.claims, rwR Zi r.items, rwB Zg ((Zaj k.claims r.claim).1), mxB 150 ([Iv r.kind, Iv r.epoch, Iv r.from_] ++ (Zs r.item ++ ([slv 3 0 p q] ++ (Zr r.claim))))]) rfl rfl rfl rfl rfl rfl rfl ⟨⟨⟨rfl, rfl, rfl, by first | omega | exact Nat.le_refl _, by first | omega | exact Nat.le_refl _⟩, (Zhg (by kernel_rfl) rfl), trivial⟩, ⟨(Zab rfl), trivial⟩, rfl, rfl, rfl⟩ (by kernel_rfl) (by kernel_rfl) ?_
  refine Zb (.tuple #[slv 4 0 ((Zaj k.claims r.claim).1.length) ((Zaj k.claims r.claim).1.length), Iv ((Zaj k.claims r.claim).2)]) (Zau (vs := #[slv 4 0 ((Zaj k.claims r.claim).1.length) ((Zaj k.claims r.claim).1.length), Iv ((Zaj k.claims r.claim).2)]) (v := slv 4 0 ((Zaj k.claims r.claim).1.length) ((Zaj k.claims r.claim).1.length)) (Zau (vs := #[slv 4 0 ((Zaj k.claims r.claim).1.length) ((Zaj k.claims r.claim).1.length), Iv ((Zaj k.claims r.claim).2)]) (v := Iv ((Zaj k.claims r.claim).2)) (Zc (slv 4 0 ((Zaj k.claims r.claim).1.length) ((Zaj k.claims r.claim).1.length)) (Zc (Iv ((Zaj k.claims r.claim).2)) ?_))))
  refine Zcn (Za6 [[], [0], [0, 1], [0, 1, 2], [0, 1, 2, 3], [], [5], [0, 1, 2, 3, 4, 5, 6], [0, 1, 2, 3, 4, 5, 6, 7], [0, 1, 2, 3, 4, 5, 6, 7, 8], [0, 1, 2, 3, 4, 5, 6, 7, 8], [0, 1, 2, 3, 4, 5, 6, 7, 8, 9], [0, 1, 2, 3, 4, 5, 6, 7, 8, 9, 10, 11]] (by kernel_rfl) (by kernel_rfl)) ?_
  refine Zf (Zj (Zj (Zl (Zb (Iv ((Zaj k.claims r.claim).2)) ?_))))
  refine Zn (vx := Iv ((Zaj k.claims r.claim).2)) (vy := Iv 0) rfl rfl (.bool true) rfl rfl (Zdd (by omega)) ?_
  refine Zd (Zf (Z5 rfl (Zj (Zl (Zc (Iv 140) (Zd (Zf (Zq (Z2 (Zad (Z2 (Zp ?_))))))))))))
  exact Zm (v := Iv 140) rfl rfl rfl (by kernel_rfl) rfl
abbrev Y27 (k : Kept) : Blk := mxB 4 ([Iv k.epoch, Iv k.log, slv 1 0 k.items.length k.items.length, slv 2 0 k.claims.length k.claims.length])
abbrev Y28 (r : Rec) (p : Nat) (q : Nat) : Blk := mxB 150 ([Iv r.kind, Iv r.epoch, Iv r.from_] ++ (Zs r.item ++ ([slv 3 0 p q] ++ (Zr r.claim))))
theorem Zwc (k : Kept) (r : Rec) (p q : Nat) (hp : r.items.length = p) (hq : p ≤ q) (hpb : p ≤ 100000) (hb : k.items.length ≤ 100000) (hb2 : k.claims.length ≤ 100000) (hk4 : r.kind = 4) (hq : (Zaj k.claims r.claim).2 = 0) : Zar Try.prog G 39 [pt 0 0, mxV ([Iv r.kind, Iv r.epoch, Iv r.from_] ++ (Zs r.item ++ ([slv 3 0 p q] ++ (Zr r.claim))))] [mxB 4 ([Iv k.epoch, Iv k.log, slv 1 0 k.items.length k.items.length, slv 2 0 k.claims.length k.claims.length]), rwR Zi k.items, rwR Zg k.claims, rwR Zi r.items] (Iv (Zdy k r).2) [mxB 4 ([Iv k.epoch, Iv k.log, slv 1 0 k.items.length k.items.length, slv 4 0 ((Zaj k.claims r.claim).1.length) ((Zaj k.claims r.claim).1.length)]), rwR Zi k.items, rwR Zg k.claims, rwR Zi r.items, rwB Zg (Zaj k.claims r.claim).1] := by
  refine Zcu (fn := Try.f39) (nt := 134) rfl rfl rfl rfl ?_
  refine Zbo 2 (H' := [Y27 k, rwR Zi k.items, rwR Zg k.claims, rwR Zi r.items, hole, hole]) rfl ?_
  refine Zj (Zl (Zbx (v := mxV ([Iv r.kind, Iv r.epoch, Iv r.from_] ++ (Zs r.item ++ ([slv 3 0 p q] ++ (Zr r.claim))))) (b := mxB 150 ([Iv r.kind, Iv r.epoch, Iv r.from_] ++ (Zs r.item ++ ([slv 3 0 p q] ++ (Zr r.claim))))) (nid := 5) (H' := [Y27 k, rwR Zi k.items, rwR Zg k.claims, rwR Zi r.items, hole, Y28 r p q]) (Zc (Iv 0) (Zd (Zf (Zj (Zj (Zl (Ze (b := 5) (o := 0) (n := 0) (o' := 0) (Zk (p := pt 5 0) (v := Iv r.kind) (Zd (Zf (Zbk (Zj (Zl ?_)))))))))))))))
  refine Zn (vx := Iv r.kind) (vy := Iv 1) rfl rfl (.bool false) rfl rfl (Zbj (by omega)) ?_
  refine Zc (.bool false) (Zd (Zf (Zw rfl (Zj (Zl ?_)))))
  refine Zn (vx := Iv r.kind) (vy := Iv 2) rfl rfl (.bool false) rfl rfl (Zbj (by omega)) ?_
  refine Zc (.bool false) (Zd (Zf (Zw rfl (Zj (Zl ?_)))))
  refine Zn (vx := Iv r.kind) (vy := Iv 3) rfl rfl (.bool false) rfl rfl (Zbj (by omega)) ?_
  refine Zc (.bool false) (Zd (Zf (Zw rfl (Zj (Zl ?_)))))
  refine Zn (vx := Iv r.kind) (vy := Iv 4) rfl rfl (.bool true) rfl rfl (Zaw (by omega)) ?_
  refine Zc (.bool true) (Zd (Zf (Z5 rfl (Zj ?_))))
  refine Zep (by kernel_rfl) ?_
  refine Zb (pt 0 0) (Zav (p := pt 0 0) (v := pt 0 0) (Ze (b := 0) (o := 0) (n := 0) (o' := 0) (Ze (b := 0) (o := 0) (n := 3) (o' := 3) (Zk (p := pt 0 3) (v := slv 2 0 k.claims.length k.claims.length) (Ze (b := 5) (o := 0) (n := 114) (o' := 114) (Zk (p := pt 5 114) (v := Zy r.claim) ?_))))))
  have hrl2 := Zom k.claims r.claim
  refine Z7 (e := [some (2, 0)]) (nid := 4) (Zmq (G := G) k.claims k.claims.length k.claims.length rfl (by omega) (by omega) r.claim) (vals := [slv 2 0 k.claims.length k.claims.length, Zy r.claim]) (v := .tuple #[slv 4 0 ((Zaj k.claims r.claim).1.length) ((Zaj k.claims r.claim).1.length), Iv ((Zaj k.claims r.claim).2)]) (H' := [Y27 k, rwR Zi k.items, rwR Zg k.claims, rwR Zi r.items, rwB Zg ((Zaj k.claims r.claim).1), Y28 r p q]) rfl rfl rfl rfl rfl rfl rfl ⟨⟨⟨rfl, rfl, rfl, by first | omega | exact Nat.le_refl _, by first | omega | exact Nat.le_refl _⟩, (Zhg (by kernel_rfl) rfl), trivial⟩, ⟨(Zab rfl), trivial⟩, rfl, rfl, rfl⟩ (by kernel_rfl) (by kernel_rfl) ?_
  refine Zb (.tuple #[slv 4 0 ((Zaj k.claims r.claim).1.length) ((Zaj k.claims r.claim).1.length), Iv ((Zaj k.claims r.claim).2)]) (Zau (vs := #[slv 4 0 ((Zaj k.claims r.claim).1.length) ((Zaj k.claims r.claim).1.length), Iv ((Zaj k.claims r.claim).2)]) (v := slv 4 0 ((Zaj k.claims r.claim).1.length) ((Zaj k.claims r.claim).1.length)) (Zau (vs := #[slv 4 0 ((Zaj k.claims r.claim).1.length) ((Zaj k.claims r.claim).1.length), Iv ((Zaj k.claims r.claim).2)]) (v := Iv ((Zaj k.claims r.claim).2)) (Zc (slv 4 0 ((Zaj k.claims r.claim).1.length) ((Zaj k.claims r.claim).1.length)) (Zc (Iv ((Zaj k.claims r.claim).2)) ?_))))
  refine Zcn (Za6 [[], [0], [0, 1], [0, 1, 2], [0, 1, 2, 3], [], [5], [0, 1, 2, 3, 4, 5, 6], [0, 1, 2, 3, 4, 5, 6, 7], [0, 1, 2, 3, 4, 5, 6, 7, 8], [0, 1, 2, 3, 4, 5, 6, 7, 8], [0, 1, 2, 3, 4, 5, 6, 7, 8, 9], [0, 1, 2, 3, 4, 5, 6, 7, 8, 9, 10, 11]] (by kernel_rfl) (by kernel_rfl)) ?_
  refine Zf (Zj (Zj (Zl (Zb (Iv ((Zaj k.claims r.claim).2)) ?_))))
  refine Zn (vx := Iv ((Zaj k.claims r.claim).2)) (vy := Iv 0) rfl rfl (.bool false) rfl rfl (Zdc (by omega)) ?_
  refine Zd (Zf (Zw rfl (Z8 (Zf (Zl (Zb (pt 0 0) (Zb (slv 4 0 ((Zaj k.claims r.claim).1.length) ((Zaj k.claims r.claim).1.length)) (Zav (p := pt 0 0) (v := pt 0 0) (Ze (b := 0) (o := 0) (n := 0) (o' := 0) (Ze (b := 0) (o := 0) (n := 3) (o' := 3) (Zz (p := pt 0 3) (v := slv 4 0 ((Zaj k.claims r.claim).1.length) ((Zaj k.claims r.claim).1.length)) (b := 0) (blk := mxB 4 ([Iv k.epoch, Iv k.log, slv 1 0 k.items.length k.items.length, slv 4 0 ((Zaj k.claims r.claim).1.length) ((Zaj k.claims r.claim).1.length)])) (H' := [mxB 4 ([Iv k.epoch, Iv k.log, slv 1 0 k.items.length k.items.length, slv 4 0 ((Zaj k.claims r.claim).1.length) ((Zaj k.claims r.claim).1.length)]), rwR Zi k.items, rwR Zg k.claims, rwR Zi r.items, rwB Zg ((Zaj k.claims r.claim).1), Y28 r p q]) (Zd (Z1 (Zf (Zj (Zj (Zl (Zb (pt 0 0) (Zav (p := pt 0 0) (v := pt 0 0) (Ze (b := 0) (o := 0) (n := 0) (o' := 0) (Zk (p := pt 0 0) (v := mxV ([Iv k.epoch, Iv k.log, slv 1 0 k.items.length k.items.length, slv 4 0 ((Zaj k.claims r.claim).1.length) ((Zaj k.claims r.claim).1.length)])) ?_)))))))))))))))))))))
  refine Z7 (e := [some (1, 0), some (4, 0)]) (nid := 0) (Zcp (G := G) (⟨k.epoch, k.log, k.items, (Zaj k.claims r.claim).1⟩ : Kept) k.items.length k.items.length ((Zaj k.claims r.claim).1.length) ((Zaj k.claims r.claim).1.length) rfl rfl (by omega) (by omega) (by omega) (by omega)) (vals := [mxV ([Iv k.epoch, Iv k.log, slv 1 0 k.items.length k.items.length, slv 4 0 ((Zaj k.claims r.claim).1.length) ((Zaj k.claims r.claim).1.length)])]) (v := Iv (Zcd (⟨k.epoch, k.log, k.items, (Zaj k.claims r.claim).1⟩ : Kept))) (H' := [mxB 4 ([Iv k.epoch, Iv k.log, slv 1 0 k.items.length k.items.length, slv 4 0 ((Zaj k.claims r.claim).1.length) ((Zaj k.claims r.claim).1.length)]), rwR Zi k.items, rwR Zg k.claims, rwR Zi r.items, rwB Zg ((Zaj k.claims r.claim).1), Y28 r p q]) rfl rfl rfl rfl rfl rfl rfl ⟨⟨(Zag (by kernel_rfl) ⟨⟨rfl, rfl⟩, ⟨rfl, rfl⟩, ⟨rfl, rfl, rfl, by first | omega | exact Nat.le_refl _, by first | omega | exact Nat.le_refl _⟩, ⟨rfl, rfl, rfl, by first | omega | exact Nat.le_refl _, by first | omega | exact Nat.le_refl _⟩, trivial⟩), trivial⟩, ⟨(Zab rfl), (Za7 rfl), trivial⟩, rfl, rfl, rfl⟩ rfl (by kernel_rfl) ?_
  by_cases h1 : (Zcd (⟨k.epoch, k.log, k.items, (Zaj k.claims r.claim).1⟩ : Kept)) ≠ 0
  refine Zn (vx := Iv (Zcd (⟨k.epoch, k.log, k.items, (Zaj k.claims r.claim).1⟩ : Kept))) (vy := Iv 0) rfl rfl (.bool true) rfl rfl (Zdd (by omega)) ?_
  refine Zd (Zf (Z5 rfl (Zj (Zl (Zc (Iv 140) (Zd (Zf (Zq (Z2 (Zp ?_))))))))))
  rw [show (Zdy k r).2 = 140 from by rw [Zla hq]; exact congrArg Prod.snd (Zdk (Za0 (by omega)))]
  exact Zm (v := Iv 140) rfl rfl rfl (by kernel_rfl) rfl
  refine Zn (vx := Iv (Zcd (⟨k.epoch, k.log, k.items, (Zaj k.claims r.claim).1⟩ : Kept))) (vy := Iv 0) rfl rfl (.bool false) rfl rfl (Zdc (by omega)) ?_
  refine Zd (Zf (Zw rfl (Z8 (Zf (Zj (Zl (Zc (Iv 0) (Zd (Zf (Zq (Zp ?_)))))))))))
  rw [show (Zdy k r).2 = 0 from by rw [Zla hq]; exact congrArg Prod.snd (Zin (Zby (by omega)))]
  exact Zm (v := Iv 0) rfl rfl rfl (by kernel_rfl) rfl
abbrev Y29 (k : Kept) (c : Nat) (d : Nat) : Blk := mxB 4 ([Iv k.epoch, Iv k.log, slv 0 0 k.items.length c, slv 1 0 k.claims.length d])
abbrev Y30 (r : Rec) (p : Nat) (q : Nat) : Blk := mxB 150 ([Iv r.kind, Iv r.epoch, Iv r.from_] ++ (Zs r.item ++ ([slv 2 0 p q] ++ (Zr r.claim))))
abbrev Y31  : Blk := mxB 4 ([Iv 0, Iv 0, .slice none 0 0, .slice none 0 0])
abbrev Y32 (k : Kept) : Blk := mxB 4 ([Iv k.epoch, Iv k.log, slv 6 0 k.items.length k.items.length, slv 7 0 k.claims.length k.claims.length])
abbrev Y33 (k : Kept) (r : Rec) : Blk := mxB 4 ([Iv k.epoch, Iv k.log, slv 6 0 k.items.length k.items.length, slv 9 0 ((Zaj k.claims r.claim).1.length) ((Zaj k.claims r.claim).1.length)])
theorem Zty (k : Kept) (c d : Nat) (hc : k.items.length ≤ c) (hd : k.claims.length ≤ d) (hb : k.items.length ≤ 100000) (hb2 : k.claims.length ≤ 100000) (r : Rec) (p q : Nat) (hp : r.items.length = p) (hq : p ≤ q) (hpb : p ≤ 100000) (hk4 : 4 ≤ r.kind) : Zar Try.prog G 19 [mxV ([Iv k.epoch, Iv k.log, slv 0 0 k.items.length c, slv 1 0 k.claims.length d]), mxV ([Iv r.kind, Iv r.epoch, Iv r.from_] ++ (Zs r.item ++ ([slv 2 0 p q] ++ (Zr r.claim))))] [rwR Zi k.items, rwR Zg k.claims, rwR Zi r.items] (.tuple #[mxV ([Iv ((Zo k r).1.epoch), Iv ((Zo k r).1.log), slv 3 0 ((Zo k r).1.items.length) ((Zo k r).1.items.length), slv 4 0 ((Zo k r).1.claims.length) ((Zo k r).1.claims.length)]), Iv (Zo k r).2]) [rwR Zi k.items, rwR Zg k.claims, rwR Zi r.items, rwB Zi (Zo k r).1.items, rwB Zg (Zo k r).1.claims] := by
  refine Zcu (fn := Try.f19) (nt := 42) rfl rfl rfl rfl ?_
  refine Zbo 9 (H' := [rwR Zi k.items, rwR Zg k.claims, rwR Zi r.items, hole, hole, hole, hole, hole, hole, hole, hole, hole]) rfl ?_
  refine Zj (Zl (Zbx (v := mxV ([Iv k.epoch, Iv k.log, slv 0 0 k.items.length c, slv 1 0 k.claims.length d])) (b := mxB 4 ([Iv k.epoch, Iv k.log, slv 0 0 k.items.length c, slv 1 0 k.claims.length d])) (nid := 3) (H' := [rwR Zi k.items, rwR Zg k.claims, rwR Zi r.items, Y29 k c d, hole, hole, hole, hole, hole, hole, hole, hole]) (Zbx (v := mxV ([Iv r.kind, Iv r.epoch, Iv r.from_] ++ (Zs r.item ++ ([slv 2 0 p q] ++ (Zr r.claim))))) (b := mxB 150 ([Iv r.kind, Iv r.epoch, Iv r.from_] ++ (Zs r.item ++ ([slv 2 0 p q] ++ (Zr r.claim))))) (nid := 4) (H' := [rwR Zi k.items, rwR Zg k.claims, rwR Zi r.items, Y29 k c d, Y30 r p q, hole, hole, hole, hole, hole, hole, hole]) (Zbg (b := mxB 4 ([Iv 0, Iv 0, .slice none 0 0, .slice none 0 0])) (nid := 5) (H' := [rwR Zi k.items, rwR Zg k.claims, rwR Zi r.items, Y29 k c d, Y30 r p q, Y31, hole, hole, hole, hole, hole, hole]) (Zc (Iv 0) (Zd (Zf (Zj (Zbk (Zj (Zl (Zk (p := pt 3 0) (v := mxV ([Iv k.epoch, Iv k.log, slv 0 0 k.items.length c, slv 1 0 k.claims.length d])) ?_))))))))))))
  refine Z7 (e := [some (0, 0), some (1, 0)]) (nid := 0) (Zcp (G := G) k k.items.length c k.claims.length d rfl rfl (by omega) (by omega) (by omega) (by omega)) (vals := [mxV ([Iv k.epoch, Iv k.log, slv 0 0 k.items.length c, slv 1 0 k.claims.length d])]) (v := Iv (Zcd k)) (H' := [rwR Zi k.items, rwR Zg k.claims, rwR Zi r.items, Y29 k c d, Y30 r p q, Y31, hole, hole, hole, hole, hole, hole]) rfl rfl rfl rfl rfl rfl rfl ⟨⟨(Zag (by kernel_rfl) ⟨⟨rfl, rfl⟩, ⟨rfl, rfl⟩, ⟨rfl, rfl, rfl, by first | omega | exact Nat.le_refl _, by first | omega | exact Nat.le_refl _⟩, ⟨rfl, rfl, rfl, by first | omega | exact Nat.le_refl _, by first | omega | exact Nat.le_refl _⟩, trivial⟩), trivial⟩, ⟨(Zab rfl), (Zab rfl), trivial⟩, rfl, rfl, rfl⟩ rfl (by kernel_rfl) ?_
  by_cases h1 : (Zcd k) ≠ 0
  refine Zn (vx := Iv (Zcd k)) (vy := Iv 0) rfl rfl (.bool true) rfl rfl (Zdd (by omega)) ?_
  refine Zc (.bool true) (Zd (Zf (Z5 rfl (Zj (Zl ?_)))))
  refine Zbt (vs := []) (v := mxV ([Iv 0, Iv 0, .slice none 0 0, .slice none 0 0])) rfl rfl rfl (by kernel_rfl) ?_
  refine Zz (p := pt 5 0) (v := mxV ([Iv 0, Iv 0, .slice none 0 0, .slice none 0 0])) (b := 5) (blk := mxB 4 ([Iv 0, Iv 0, .slice none 0 0, .slice none 0 0])) (H' := [rwR Zi k.items, rwR Zg k.claims, rwR Zi r.items, Y29 k c d, Y30 r p q, Y31, hole, hole, hole, hole, hole, hole]) (Zc (Iv 1) (Zd (Zf ?_)))
  refine Zc5 (Zch.nilCell (k := 5) (j := 2) (b := 6) true 110 rfl (by decide) rfl (by show 0 < 4; decide) rfl rfl) ?_
  refine Zc5 (Zch.nilCell (k := 5) (j := 3) (b := 7) true 36 rfl (by decide) rfl (by show 0 < 4; decide) rfl rfl) ?_
  refine Zq (Zad (Z2 (Zp ?_)))
  rw [show Zo k r = (⟨0, 0, [], []⟩, 1) from Zn9 (Za0 (by omega))]
  exact Zbf [0, 1, 2, 6, 7] (v := .tuple #[mxV ([Iv 0, Iv 0, slv 6 0 0 0, slv 7 0 0 0]), Iv 1]) rfl (by kernel_rfl) rfl rfl (by decide) (by simp [Zck, rwB, rwR, Zi, Zg]) ⟨(Zag (by kernel_rfl) ⟨⟨rfl, rfl⟩, ⟨rfl, rfl⟩, ⟨rfl, rfl, rfl, by first | omega | exact Nat.le_refl _ | exact Nat.zero_le _ | (dsimp only; omega), by first | omega | exact Nat.le_refl _ | exact Nat.zero_le _ | (dsimp only; omega)⟩, ⟨rfl, rfl, rfl, by first | omega | exact Nat.le_refl _ | exact Nat.zero_le _ | (dsimp only; omega), by first | omega | exact Nat.le_refl _ | exact Nat.zero_le _ | (dsimp only; omega)⟩, trivial⟩), rfl, trivial⟩
  refine Zn (vx := Iv (Zcd k)) (vy := Iv 0) rfl rfl (.bool false) rfl rfl (Zdc (by omega)) ?_
  refine Zc (.bool false) (Zd (Zf (Zw rfl (Zj (Zl (Zk (p := pt 4 0) (v := mxV ([Iv r.kind, Iv r.epoch, Iv r.from_] ++ (Zs r.item ++ ([slv 2 0 p q] ++ (Zr r.claim))))) ?_))))))
  refine Z7 (e := [some (2, 0)]) (nid := 0) (Zsi (G := G) r p q hp (by omega) (by omega)) (vals := [mxV ([Iv r.kind, Iv r.epoch, Iv r.from_] ++ (Zs r.item ++ ([slv 2 0 p q] ++ (Zr r.claim))))]) (v := .bool (decide (Zbr r))) (H' := [rwR Zi k.items, rwR Zg k.claims, rwR Zi r.items, Y29 k c d, Y30 r p q, Y31, hole, hole, hole, hole, hole, hole]) rfl rfl rfl rfl rfl rfl rfl ⟨⟨(Zag (by kernel_rfl) (Z9 ⟨⟨rfl, rfl⟩, ⟨rfl, rfl⟩, ⟨rfl, rfl⟩, trivial⟩ (Z9 (Zai (by kernel_rfl)) (Z9 ⟨⟨rfl, rfl, rfl, by first | omega | exact Nat.le_refl _, by first | omega | exact Nat.le_refl _⟩, trivial⟩ (Zai (by kernel_rfl)))))), trivial⟩, ⟨(Zab rfl), trivial⟩, rfl, rfl, rfl⟩ rfl (by kernel_rfl) ?_
  rcases Bool.eq_false_or_eq_true (decide (Zbr r)) with h2 | h2
  refine Zhv (vx := .bool (decide (Zbr r))) rfl rfl (.bool false) rfl (Eq.trans Zdx (congrArg (fun b => some (Value.bool !b)) h2)) ?_
  refine Zc (.bool false) (Zd (Zf (Zw rfl (Z8 (Z1 (Zf (Zj ?_)))))))
  refine Zep (by kernel_rfl) ?_
  refine Ze (b := 3) (o := 0) (n := 2) (o' := 2) (Zk (p := pt 3 2) (v := slv 0 0 k.items.length c) ?_)
  refine Z7 (e := [some (0, 0)]) (nid := 6) (Zmn (G := G) k.items k.items.length c rfl (by omega) (by omega)) (vals := [slv 0 0 k.items.length c]) (v := slv 6 0 k.items.length k.items.length) (H' := [rwR Zi k.items, rwR Zg k.claims, rwR Zi r.items, Y29 k c d, Y30 r p q, Y31, rwB Zi k.items, hole, hole, hole, hole, hole]) rfl rfl rfl rfl rfl rfl rfl ⟨⟨⟨rfl, rfl, rfl, by first | omega | exact Nat.le_refl _, by first | omega | exact Nat.le_refl _⟩, trivial⟩, ⟨(Zab rfl), trivial⟩, rfl, rfl, rfl⟩ (by kernel_rfl) (by kernel_rfl) ?_
  refine Ze (b := 3) (o := 0) (n := 3) (o' := 3) (Zk (p := pt 3 3) (v := slv 1 0 k.claims.length d) ?_)
  refine Z7 (e := [some (1, 0)]) (nid := 7) (Zh3 (G := G) k.claims k.claims.length d rfl (by omega) (by omega)) (vals := [slv 1 0 k.claims.length d]) (v := slv 7 0 k.claims.length k.claims.length) (H' := [rwR Zi k.items, rwR Zg k.claims, rwR Zi r.items, Y29 k c d, Y30 r p q, Y31, rwB Zi k.items, rwB Zg k.claims, hole, hole, hole, hole]) rfl rfl rfl rfl rfl rfl rfl ⟨⟨⟨rfl, rfl, rfl, by first | omega | exact Nat.le_refl _, by first | omega | exact Nat.le_refl _⟩, trivial⟩, ⟨(Zab rfl), trivial⟩, rfl, rfl, rfl⟩ (by kernel_rfl) (by kernel_rfl) ?_
  refine Ze (b := 3) (o := 0) (n := 2) (o' := 2) (Zz (p := pt 3 2) (v := slv 6 0 k.items.length k.items.length) (b := 3) (blk := mxB 4 ([Iv k.epoch, Iv k.log, slv 6 0 k.items.length k.items.length, slv 1 0 k.claims.length d])) (H' := [rwR Zi k.items, rwR Zg k.claims, rwR Zi r.items, mxB 4 ([Iv k.epoch, Iv k.log, slv 6 0 k.items.length k.items.length, slv 1 0 k.claims.length d]), Y30 r p q, Y31, rwB Zi k.items, rwB Zg k.claims, hole, hole, hole, hole]) (Ze (b := 3) (o := 0) (n := 3) (o' := 3) (Zz (p := pt 3 3) (v := slv 7 0 k.claims.length k.claims.length) (b := 3) (blk := mxB 4 ([Iv k.epoch, Iv k.log, slv 6 0 k.items.length k.items.length, slv 7 0 k.claims.length k.claims.length])) (H' := [rwR Zi k.items, rwR Zg k.claims, rwR Zi r.items, Y32 k, Y30 r p q, Y31, rwB Zi k.items, rwB Zg k.claims, hole, hole, hole, hole]) ?_)))
  refine Zcn (Za6 [[], [0], [0, 1], [], [3], [0, 1, 2, 3, 4], [0, 1, 2, 3, 4], [0, 1, 2, 3, 4, 5, 6], [0, 1, 2, 3, 4, 5, 6, 7], [0, 1, 2, 3, 4, 5, 6, 7, 8]] (by kernel_rfl) (by kernel_rfl)) ?_
  refine Zf (Zj (Zl (Zk (p := pt 3 0) (v := mxV ([Iv k.epoch, Iv k.log, slv 6 0 k.items.length k.items.length, slv 7 0 k.claims.length k.claims.length])) ?_)))
  refine Zbt (vs := [(0, mxV ([Iv k.epoch, Iv k.log, slv 6 0 k.items.length k.items.length, slv 7 0 k.claims.length k.claims.length]))]) (v := mxV ([Iv k.epoch, Iv k.log, slv 6 0 k.items.length k.items.length, slv 7 0 k.claims.length k.claims.length])) rfl rfl rfl (by kernel_rfl) ?_
  refine Zbx (v := mxV ([Iv k.epoch, Iv k.log, slv 6 0 k.items.length k.items.length, slv 7 0 k.claims.length k.claims.length])) (b := mxB 4 ([Iv k.epoch, Iv k.log, slv 6 0 k.items.length k.items.length, slv 7 0 k.claims.length k.claims.length])) (nid := 8) (H' := [rwR Zi k.items, rwR Zg k.claims, rwR Zi r.items, Y32 k, Y30 r p q, Y31, rwB Zi k.items, rwB Zg k.claims, Y32 k, hole, hole, hole]) (Zc (pt 8 0) (Zd (Zf (Zj (Zl (Zc (.func (.func 39) #[] #[]) (Zd (Zf (Zj (Zj (Zl (Zb (.func (.func 39) #[] #[]) (Zb (pt 8 0) (Zk (p := pt 4 0) (v := mxV ([Iv r.kind, Iv r.epoch, Iv r.from_] ++ (Zs r.item ++ ([slv 2 0 p q] ++ (Zr r.claim))))) ?_))))))))))))))
  by_cases h3 : ((Zaj k.claims r.claim).2) ≤ 0
  have hnn6 := Zq8 k.claims r.claim
  have hmy6 := Zu8 (of_decide_eq_true (by assumption : decide (Zbr r) = true)) hk4
  refine Z7 (e := [some (8, 0), some (6, 0), some (7, 0), some (2, 0)]) (nid := 9) (Zwc (G := G) k r p q hp (by omega) (by omega) (by omega) (by omega) hmy6 (by omega)) (vals := [pt 8 0, mxV ([Iv r.kind, Iv r.epoch, Iv r.from_] ++ (Zs r.item ++ ([slv 2 0 p q] ++ (Zr r.claim))))]) (v := Iv ((Zdy k r).2)) (H' := [rwR Zi k.items, rwR Zg k.claims, rwR Zi r.items, Y32 k, Y30 r p q, Y31, rwB Zi k.items, rwB Zg k.claims, Y33 k r, rwB Zg ((Zaj k.claims r.claim).1), hole, hole]) rfl rfl rfl rfl rfl rfl rfl ⟨⟨⟨rfl, rfl⟩, (Zag (by kernel_rfl) (Z9 ⟨⟨rfl, rfl⟩, ⟨rfl, rfl⟩, ⟨rfl, rfl⟩, trivial⟩ (Z9 (Zai (by kernel_rfl)) (Z9 ⟨⟨rfl, rfl, rfl, by first | omega | exact Nat.le_refl _, by first | omega | exact Nat.le_refl _⟩, trivial⟩ (Zai (by kernel_rfl)))))), trivial⟩, ⟨(Zhk (B := mxB 4 ([Iv k.epoch, Iv k.log, slv 6 0 k.items.length k.items.length, slv 7 0 k.claims.length k.claims.length])) (by kernel_rfl) rfl rfl (by kernel_rfl)), (Za7 rfl), (Za7 rfl), (Zab rfl), trivial⟩, rfl, rfl, rfl⟩ rfl (by kernel_rfl) ?_
  refine Zc (Iv ((Zdy k r).2)) (Zd (Zf (Zj (Zl (Zb (Iv ((Zdy k r).2)) ?_)))))
  by_cases h4 : ((Zdy k r).2) ≠ 0
  refine Zn (vx := Iv ((Zdy k r).2)) (vy := Iv 0) rfl rfl (.bool true) rfl rfl (Zdd (by omega)) ?_
  refine Zd (Zf (Z5 rfl (Zj (Zl ?_))))
  refine Zbt (vs := []) (v := mxV ([Iv 0, Iv 0, .slice none 0 0, .slice none 0 0])) rfl rfl rfl (by kernel_rfl) ?_
  refine Zb (Iv ((Zdy k r).2)) (Zz (p := pt 5 0) (v := mxV ([Iv 0, Iv 0, .slice none 0 0, .slice none 0 0])) (b := 5) (blk := mxB 4 ([Iv 0, Iv 0, .slice none 0 0, .slice none 0 0])) (H' := [rwR Zi k.items, rwR Zg k.claims, rwR Zi r.items, Y32 k, Y30 r p q, Y31, rwB Zi k.items, rwB Zg k.claims, Y33 k r, rwB Zg ((Zaj k.claims r.claim).1), hole, hole]) (Zc (Iv ((Zdy k r).2)) (Zd (Zf ?_))))
  refine Zc5 (Zch.nilCell (k := 5) (j := 2) (b := 10) true 110 rfl (by decide) rfl (by show 0 < 4; decide) rfl rfl) ?_
  refine Zc5 (Zch.nilCell (k := 5) (j := 3) (b := 11) true 36 rfl (by decide) rfl (by show 0 < 4; decide) rfl rfl) ?_
  refine Zq (Z2 (Zp ?_))
  rw [show Zo k r = (⟨0, 0, [], []⟩, (Zdy k r).2) from Zll (Zby (by omega)) (of_decide_eq_true (by assumption)) (by omega) (by omega)]
  exact Zbf [0, 1, 2, 10, 11] (v := .tuple #[mxV ([Iv 0, Iv 0, slv 10 0 0 0, slv 11 0 0 0]), Iv ((Zdy k r).2)]) rfl (by kernel_rfl) rfl rfl (by decide) (by simp [Zck, rwB, rwR, Zi, Zg]) ⟨(Zag (by kernel_rfl) ⟨⟨rfl, rfl⟩, ⟨rfl, rfl⟩, ⟨rfl, rfl, rfl, by first | omega | exact Nat.le_refl _ | exact Nat.zero_le _ | (dsimp only; omega), by first | omega | exact Nat.le_refl _ | exact Nat.zero_le _ | (dsimp only; omega)⟩, ⟨rfl, rfl, rfl, by first | omega | exact Nat.le_refl _ | exact Nat.zero_le _ | (dsimp only; omega), by first | omega | exact Nat.le_refl _ | exact Nat.zero_le _ | (dsimp only; omega)⟩, trivial⟩), rfl, trivial⟩
  refine Zn (vx := Iv ((Zdy k r).2)) (vy := Iv 0) rfl rfl (.bool false) rfl rfl (Zdc (by omega)) ?_
  refine Zd (Zf (Zw rfl (Z8 (Zf (Zj (Zl (Zb (pt 8 0) (Zav (p := pt 8 0) (v := pt 8 0) (Ze (b := 8) (o := 0) (n := 0) (o' := 0) (Zk (p := pt 8 0) (v := mxV ([Iv k.epoch, Iv k.log, slv 6 0 k.items.length k.items.length, slv 9 0 ((Zaj k.claims r.claim).1.length) ((Zaj k.claims r.claim).1.length)])) (Zz (p := pt 5 0) (v := mxV ([Iv k.epoch, Iv k.log, slv 6 0 k.items.length k.items.length, slv 9 0 ((Zaj k.claims r.claim).1.length) ((Zaj k.claims r.claim).1.length)])) (b := 5) (blk := mxB 4 ([Iv k.epoch, Iv k.log, slv 6 0 k.items.length k.items.length, slv 9 0 ((Zaj k.claims r.claim).1.length) ((Zaj k.claims r.claim).1.length)])) (H' := [rwR Zi k.items, rwR Zg k.claims, rwR Zi r.items, Y32 k, Y30 r p q, Y33 k r, rwB Zi k.items, rwB Zg k.claims, Y33 k r, rwB Zg ((Zaj k.claims r.claim).1), hole, hole]) (Zc (Iv 0) (Zd (Zf (Zq (Zp ?_))))))))))))))))
  rw [show Zo k r = ((⟨k.epoch, k.log, k.items, (Zaj k.claims r.claim).1⟩ : Kept), 0) from Zui (Zby (by omega)) (of_decide_eq_true (by assumption)) (by omega) (by omega) (by omega)]
  exact Zbf [0, 1, 2, 6, 9] (v := .tuple #[mxV ([Iv k.epoch, Iv k.log, slv 6 0 k.items.length k.items.length, slv 9 0 ((Zaj k.claims r.claim).1.length) ((Zaj k.claims r.claim).1.length)]), Iv 0]) rfl (by kernel_rfl) rfl rfl (by decide) (by simp [Zck, rwB, rwR, Zi, Zg]) ⟨(Zag (by kernel_rfl) ⟨⟨rfl, rfl⟩, ⟨rfl, rfl⟩, ⟨rfl, rfl, rfl, by first | omega | exact Nat.le_refl _ | exact Nat.zero_le _ | (dsimp only; omega), by first | omega | exact Nat.le_refl _ | exact Nat.zero_le _ | (dsimp only; omega)⟩, ⟨rfl, rfl, rfl, by first | omega | exact Nat.le_refl _ | exact Nat.zero_le _ | (dsimp only; omega), by first | omega | exact Nat.le_refl _ | exact Nat.zero_le _ | (dsimp only; omega)⟩, trivial⟩), rfl, trivial⟩
  have hnn7 := Zq8 k.claims r.claim
  have hmy7 := Zu8 (of_decide_eq_true (by assumption : decide (Zbr r) = true)) hk4
  have hq7 : 1 ≤ (Zaj k.claims r.claim).2 := by have := Zq8 k.claims r.claim; omega
  refine Z7 (e := [some (8, 0), some (6, 0), some (7, 0), some (2, 0)]) (nid := 0) (Zwb (G := G) k r p q hp (by omega) (by omega) (by omega) (by omega) hmy7 hq7) (vals := [pt 8 0, mxV ([Iv r.kind, Iv r.epoch, Iv r.from_] ++ (Zs r.item ++ ([slv 2 0 p q] ++ (Zr r.claim))))]) (v := Iv 140) (H' := [rwR Zi k.items, rwR Zg k.claims, rwR Zi r.items, Y32 k, Y30 r p q, Y31, rwB Zi k.items, rwB Zg k.claims, Y32 k, hole, hole, hole]) rfl rfl rfl rfl rfl rfl rfl ⟨⟨⟨rfl, rfl⟩, (Zag (by kernel_rfl) (Z9 ⟨⟨rfl, rfl⟩, ⟨rfl, rfl⟩, ⟨rfl, rfl⟩, trivial⟩ (Z9 (Zai (by kernel_rfl)) (Z9 ⟨⟨rfl, rfl, rfl, by first | omega | exact Nat.le_refl _, by first | omega | exact Nat.le_refl _⟩, trivial⟩ (Zai (by kernel_rfl)))))), trivial⟩, ⟨(Zhk (B := mxB 4 ([Iv k.epoch, Iv k.log, slv 6 0 k.items.length k.items.length, slv 7 0 k.claims.length k.claims.length])) (by kernel_rfl) rfl rfl (by kernel_rfl)), (Za7 rfl), (Za7 rfl), (Zab rfl), trivial⟩, rfl, rfl, rfl⟩ rfl (by kernel_rfl) ?_
  refine Zc (Iv 140) (Zd (Zf (Zj (Zl (Zb (Iv 140) ?_)))))
  refine Zn (vx := Iv 140) (vy := Iv 0) rfl rfl (.bool true) rfl rfl (Zdd (by omega)) ?_
  refine Zd (Zf (Z5 rfl (Zj (Zl ?_))))
  refine Zbt (vs := []) (v := mxV ([Iv 0, Iv 0, .slice none 0 0, .slice none 0 0])) rfl rfl rfl (by kernel_rfl) ?_
  refine Zb (Iv 140) (Zz (p := pt 5 0) (v := mxV ([Iv 0, Iv 0, .slice none 0 0, .slice none 0 0])) (b := 5) (blk := mxB 4 ([Iv 0, Iv 0, .slice none 0 0, .slice none 0 0])) (H' := [rwR Zi k.items, rwR Zg k.claims, rwR Zi r.items, Y32 k, Y30 r p q, Y31, rwB Zi k.items, rwB Zg k.claims, Y32 k, hole, hole, hole]) (Zc (Iv 140) (Zd (Zf ?_))))
  refine Zc5 (Zch.nilCell (k := 5) (j := 2) (b := 9) true 110 rfl (by decide) rfl (by show 0 < 4; decide) rfl rfl) ?_
  refine Zc5 (Zch.nilCell (k := 5) (j := 3) (b := 10) true 36 rfl (by decide) rfl (by show 0 < 4; decide) rfl rfl) ?_
  refine Zq (Z2 (Zp ?_))
  rw [show Zo k r = (⟨0, 0, [], []⟩, 140) from by first | exact Zk4 (Zby (by omega)) (of_decide_eq_false (by assumption)) | exact (Zll (Zby (by omega)) (of_decide_eq_true (by assumption)) (by omega) (by rw [Zjx (by omega)]; show ¬ (140 : Int) = 0; decide)).trans (by rw [Zjx (by omega)])]
  exact Zbf [0, 1, 2, 9, 10] (v := .tuple #[mxV ([Iv 0, Iv 0, slv 9 0 0 0, slv 10 0 0 0]), Iv 140]) rfl (by kernel_rfl) rfl rfl (by decide) (by simp [Zck, rwB, rwR, Zi, Zg]) ⟨(Zag (by kernel_rfl) ⟨⟨rfl, rfl⟩, ⟨rfl, rfl⟩, ⟨rfl, rfl, rfl, by first | omega | exact Nat.le_refl _ | exact Nat.zero_le _ | (dsimp only; omega), by first | omega | exact Nat.le_refl _ | exact Nat.zero_le _ | (dsimp only; omega)⟩, ⟨rfl, rfl, rfl, by first | omega | exact Nat.le_refl _ | exact Nat.zero_le _ | (dsimp only; omega), by first | omega | exact Nat.le_refl _ | exact Nat.zero_le _ | (dsimp only; omega)⟩, trivial⟩), rfl, trivial⟩
  refine Zhv (vx := .bool (decide (Zbr r))) rfl rfl (.bool true) rfl (Eq.trans Zdx (congrArg (fun b => some (Value.bool !b)) h2)) ?_
  refine Zc (.bool true) (Zd (Zf (Z5 rfl (Zj (Zl ?_)))))
  refine Zbt (vs := []) (v := mxV ([Iv 0, Iv 0, .slice none 0 0, .slice none 0 0])) rfl rfl rfl (by kernel_rfl) ?_
  refine Zz (p := pt 5 0) (v := mxV ([Iv 0, Iv 0, .slice none 0 0, .slice none 0 0])) (b := 5) (blk := mxB 4 ([Iv 0, Iv 0, .slice none 0 0, .slice none 0 0])) (H' := [rwR Zi k.items, rwR Zg k.claims, rwR Zi r.items, Y29 k c d, Y30 r p q, Y31, hole, hole, hole, hole, hole, hole]) (Zc (Iv 140) (Zd (Zf ?_)))
  refine Zc5 (Zch.nilCell (k := 5) (j := 2) (b := 6) true 110 rfl (by decide) rfl (by show 0 < 4; decide) rfl rfl) ?_
  refine Zc5 (Zch.nilCell (k := 5) (j := 3) (b := 7) true 36 rfl (by decide) rfl (by show 0 < 4; decide) rfl rfl) ?_
  refine Zq (Zad (Z2 (Zp ?_)))
  rw [show Zo k r = (⟨0, 0, [], []⟩, 140) from by first | exact Zk4 (Zby (by omega)) (of_decide_eq_false (by assumption)) | exact (Zll (Zby (by omega)) (of_decide_eq_true (by assumption)) (by omega) (by rw [Zjx (by omega)]; show ¬ (140 : Int) = 0; decide)).trans (by rw [Zjx (by omega)])]
  exact Zbf [0, 1, 2, 6, 7] (v := .tuple #[mxV ([Iv 0, Iv 0, slv 6 0 0 0, slv 7 0 0 0]), Iv 140]) rfl (by kernel_rfl) rfl rfl (by decide) (by simp [Zck, rwB, rwR, Zi, Zg]) ⟨(Zag (by kernel_rfl) ⟨⟨rfl, rfl⟩, ⟨rfl, rfl⟩, ⟨rfl, rfl, rfl, by first | omega | exact Nat.le_refl _ | exact Nat.zero_le _ | (dsimp only; omega), by first | omega | exact Nat.le_refl _ | exact Nat.zero_le _ | (dsimp only; omega)⟩, ⟨rfl, rfl, rfl, by first | omega | exact Nat.le_refl _ | exact Nat.zero_le _ | (dsimp only; omega), by first | omega | exact Nat.le_refl _ | exact Nat.zero_le _ | (dsimp only; omega)⟩, trivial⟩), rfl, trivial⟩
theorem Zot (k : Kept) (c d : Nat) (hc : k.items.length ≤ c) (hd : k.claims.length ≤ d) (hb : k.items.length ≤ 100000) (hb2 : k.claims.length ≤ 100000) (r : Rec) (p q : Nat) (hp : r.items.length = p) (hq : p ≤ q) (hpb : p ≤ 100000) : Zar Try.prog G 19 [mxV ([Iv k.epoch, Iv k.log, slv 0 0 k.items.length c, slv 1 0 k.claims.length d]), mxV ([Iv r.kind, Iv r.epoch, Iv r.from_] ++ (Zs r.item ++ ([slv 2 0 p q] ++ (Zr r.claim))))] [rwR Zi k.items, rwR Zg k.claims, rwR Zi r.items] (.tuple #[mxV ([Iv ((Zo k r).1.epoch), Iv ((Zo k r).1.log), slv 3 0 ((Zo k r).1.items.length) ((Zo k r).1.items.length), slv 4 0 ((Zo k r).1.claims.length) ((Zo k r).1.claims.length)]), Iv (Zo k r).2]) [rwR Zi k.items, rwR Zg k.claims, rwR Zi r.items, rwB Zi (Zo k r).1.items, rwB Zg (Zo k r).1.claims] := by
 by_cases h : r.kind ≤ 3
 ·rw [Zuj h]; exact Zrr k c d hc hd hb hb2 r p q hp hq hpb h
 ·exact Zty k c d hc hd hb hb2 r p q hp hq hpb (by omega)
end Go.Flat
namespace Go.Flat
open Go.Proofs
variable {G : Glob}
section
variable {k K : Kept} {r : Rec} {e : Int}
end
end Go.Flat
namespace Go.Flat
open Go.Proofs
variable {G : Glob}
def Z1e (n : Nat) (cs : List Value) : Blk := { cells := cs, sz := n, wr := true, fix := false, mv := true, pur := true }
section
variable {k : Kept} {r : Rec}
theorem Ztv (k : Kept) (r : Rec) : (Zdn k r).1.items.length ≤ k.items.length + r.items.length + 1 ∧ (Zdn k r).1.claims.length ≤ k.claims.length + 1 := by
 have hr := Zom k.claims r.claim
 unfold Zdn
 split
 ·unfold Zdy; split
  ·show k.items.length ≤ _ ∧ (Zaj k.claims r.claim).1.length ≤ _; omega
  ·show k.items.length ≤ _ ∧ k.claims.length ≤ _; omega
 ·unfold Zac Zhd
  split
  ·split <;> (show k.items.length ≤ _ ∧ k.claims.length ≤ _; omega)
  ·split
   ·split
    ·show (k.items ++ [r.item]).length ≤ _ ∧ k.claims.length ≤ _; simp <;> omega
    ·show k.items.length ≤ _ ∧ k.claims.length ≤ _; omega
   ·split
    ·show k.items.length ≤ _ ∧ k.claims.length ≤ _; omega
    ·split
     ·show k.items.length ≤ _ ∧ k.claims.length ≤ _; omega
     ·show (k.items.take _ ++ r.items).length ≤ _ ∧ k.claims.length ≤ _; simp <;> omega
theorem Zm1 (k : Kept) (r : Rec) : (Zo k r).1.items.length ≤ k.items.length + r.items.length + 1 ∧ (Zo k r).1.claims.length ≤ k.claims.length + 1 := by
 have := Ztv k r
 unfold Zo
 split
 ·split
  ·split
   ·exact this
   ·exact ⟨Nat.zero_le _, Nat.zero_le _⟩
  ·exact ⟨Nat.zero_le _, Nat.zero_le _⟩
 ·exact ⟨Nat.zero_le _, Nat.zero_le _⟩
theorem Zvq (k : Kept) (r : Rec) : 0 ≤ (Zdn k r).2 := by
 unfold Zdn
 split
 ·unfold Zdy; split
  ·exact Zn7 _
  ·show (0 : Int) ≤ 140; decide
 ·exact Zw4 k r
theorem Zpe (k : Kept) (r : Rec) : 0 ≤ (Zo k r).2 := by
 have := Zvq k r
 unfold Zo
 split
 ·split
  ·split
   ·show (0 : Int) ≤ 0; decide
   ·exact this
  ·show (0 : Int) ≤ 140; decide
 ·show (0 : Int) ≤ 1; decide
theorem Zlm (h : (Zo k r).2 = 0) : Zb5 k ∧ Zbr r ∧ (Zdn k r).2 = 0 ∧ (Zo k r).1 = (Zdn k r).1 := by
 by_cases h1 : Zb5 k
 ·by_cases h2 : Zbr r
  ·by_cases h3 : (Zdn k r).2 = 0
   ·exact ⟨h1, h2, h3, by rw [Zob h1 h2 h3]⟩
   ·rw [Zoa h1 h2 h3] at h; exact absurd h h3
  ·rw [Zk4 h1 h2] at h; exact absurd h (by decide)
 ·rw [Zn9 h1] at h; exact absurd h (by decide)
theorem Zs3 (h : ¬ (Zo k r).2 = 0) : Zo k r = (⟨0, 0, [], []⟩, (Zo k r).2) := by
 by_cases h1 : Zb5 k
 ·by_cases h2 : Zbr r
  ·by_cases h3 : (Zdn k r).2 = 0
   ·rw [Zob h1 h2 h3] at h; exact absurd rfl h
   ·rw [Zoa h1 h2 h3]
  ·rw [Zk4 h1 h2]
 ·rw [Zn9 h1]
theorem Zn8 {K : Kept} (h : (Zhd K).2 = 0) : Zb5 K := by
 unfold Zhd at h
 split at h
 ·assumption
 ·exact absurd h (by simp)
def Zgb (k : Kept) (r : Rec) : Nat := if r.kind = 3 then r.from_.toNat else k.items.length
theorem Ztw (hK : Zb5 k) (hm : Zbr r) (h : (Zdn k r).2 = 0) : Zb5 (Zdn k r).1 ∧ k.epoch ≤ (Zdn k r).1.epoch ∧ k.log ≤ (Zdn k r).1.log ∧ k.claims.length ≤ (Zdn k r).1.claims.length ∧ Zgb k r ≤ k.items.length ∧ Zgb k r ≤ (Zdn k r).1.items.length ∧ (Zdn k r).1.items.take (Zgb k r) = k.items.take (Zgb k r) := by
 have hk := Zia hm
 have hl : k.log ≤ k.epoch := hK.2.1.2
 by_cases h4 : r.kind = 4
 ·have hs : Zgb k r = k.items.length := if_neg (by omega)
  rw [Zjy h4] at h ⊢
  by_cases hq : (Zaj k.claims r.claim).2 = 0
  ·rw [Zla hq] at h ⊢
   have hr := Zn8 h
   refine ⟨hr, Int.le_refl _, Int.le_refl _, ?_, by rw [hs]; exact Nat.le_refl _, by rw [hs]; exact Nat.le_refl _, rfl⟩
   show k.claims.length ≤ (Zaj k.claims r.claim).1.length
   unfold Zaj at hq ⊢
   split
   ·split
    ·split
     ·exact Nat.le_refl _
     ·rename_i a b c; rw [if_pos a, if_pos b, if_neg c] at hq; exact absurd hq (by simp)
    ·have := Zk7 k.claims r.claim; simp; omega
   ·rename_i a; rw [if_neg a] at hq; exact absurd hq (by simp)
  ·rw [Zjx hq] at h; exact absurd h (by simp)
 ·rw [Zsr h4] at h ⊢
  by_cases k1 : r.kind = 1
  ·have hs : Zgb k r = k.items.length := if_neg (by omega)
   by_cases e1 : r.epoch < k.epoch
   ·rw [Zfo k1 e1] at h; exact absurd h (by simp)
   ·rw [Zeg k1 e1] at h ⊢
    exact ⟨Zn8 h, by show k.epoch ≤ r.epoch; omega, Int.le_refl _, Nat.le_refl _, by rw [hs]; exact Nat.le_refl _, by rw [hs]; exact Nat.le_refl _, rfl⟩
  ·by_cases k2 : r.kind = 2
   ·have hs : Zgb k r = k.items.length := if_neg (by omega)
    by_cases e1 : r.item.epoch = k.log ∧ Zen k.items k.items.length r.item = 0
    ·rw [Zeh k2 e1.1 e1.2] at h ⊢
     exact ⟨Zn8 h, Int.le_refl _, Int.le_refl _, Nat.le_refl _, by rw [hs]; exact Nat.le_refl _, by rw [hs]; show _ ≤ (k.items ++ [r.item]).length; simp, by rw [hs]; show (k.items ++ [r.item]).take _ = _; simp⟩
    ·rw [Zfp k2 e1] at h; exact absurd h (by simp)
   ·have k3 : r.kind = 3 := by omega
    have hs : Zgb k r = r.from_.toNat := if_pos k3
    by_cases e1 : r.epoch < k.epoch
    ·rw [Zfq k3 e1] at h; exact absurd h (by simp)
    ·by_cases e2 : (k.items.length : Int) < r.from_
     ·rw [Zfr k3 e1 e2] at h; exact absurd h (by simp)
     ·rw [Zei k3 e1 e2] at h ⊢
      have hf : r.from_.toNat ≤ k.items.length := by omega
      have hlt : (k.items.take r.from_.toNat).length = r.from_.toNat := by rw [List.length_take]; omega
      refine ⟨Zn8 h, by show k.epoch ≤ r.epoch; omega, by show k.log ≤ r.epoch; omega, Nat.le_refl _, by rw [hs]; exact hf, ?_, ?_⟩
      ·rw [hs]; show _ ≤ (k.items.take r.from_.toNat ++ r.items).length; rw [List.length_append, hlt]; omega
      ·rw [hs]; show (k.items.take r.from_.toNat ++ r.items).take r.from_.toNat = _; rw [List.take_append_of_le_length (by omega), List.take_take, Nat.min_self]
theorem Zs4 (h : (Zo k r).2 = 0) : Zb5 k ∧ Zb5 (Zo k r).1 ∧ k.epoch ≤ (Zo k r).1.epoch ∧ k.log ≤ (Zo k r).1.log ∧ k.claims.length ≤ (Zo k r).1.claims.length ∧ Zgb k r ≤ k.items.length ∧ Zgb k r ≤ (Zo k r).1.items.length ∧ (Zo k r).1.items.take (Zgb k r) = k.items.take (Zgb k r) := by
 obtain ⟨h1, h2, h3, h4⟩ := Zlm h
 rw [h4]
 exact ⟨h1, Ztw h1 h2 h3⟩
end
theorem Ztz (k : Kept) (c d : Nat) (hc : k.items.length ≤ c) (hd : k.claims.length ≤ d) (hb : k.items.length ≤ 100000) (hb2 : k.claims.length ≤ 100000) (r : Rec) (p q : Nat) (hp : r.items.length = p) (hq : p ≤ q) (hpb : p ≤ 100000) {x : Kept × Int} (hx : Zo k r = x) : Zar Try.prog G 19 [mxV ([Iv k.epoch, Iv k.log, slv 0 0 k.items.length c, slv 1 0 k.claims.length d]), mxV ([Iv r.kind, Iv r.epoch, Iv r.from_] ++ (Zs r.item ++ ([slv 2 0 p q] ++ (Zr r.claim))))] [rwR Zi k.items, rwR Zg k.claims, rwR Zi r.items] (.tuple #[mxV ([Iv x.1.epoch, Iv x.1.log, slv 3 0 x.1.items.length x.1.items.length, slv 4 0 x.1.claims.length x.1.claims.length]), Iv x.2]) [rwR Zi k.items, rwR Zg k.claims, rwR Zi r.items, rwB Zi x.1.items, rwB Zg x.1.claims] := by
 subst hx; exact Zot k c d hc hd hb hb2 r p q hp hq hpb
end Go.Flat
