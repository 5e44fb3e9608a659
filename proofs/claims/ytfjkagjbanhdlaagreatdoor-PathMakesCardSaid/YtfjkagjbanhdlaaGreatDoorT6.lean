/- Walks. -/
import Derived.Test.YtfjkagjbanhdlaaGreatDoorS1
import Derived.Test.YtfjkagjbanhdlaaGreatDoorT3B
set_option linter.unusedVariables false
set_option linter.unusedSimpArgs false
set_option maxRecDepth 20000
namespace Go.Flat
open Go.Proofs
variable {G : Glob}
def Zf6 (l : List Item) (k : Int) : Int := if Zec l then (if 0 ≤ k ∧ k ≤ l.length then 0 else 21) else 100
theorem Zuv {l : List Item} {k : Int} (h : Zf6 l k = 0) : Zec l ∧ 0 ≤ k ∧ k ≤ l.length := by
 unfold Zf6 at h
 split at h
 ·split at h
  ·exact ⟨by assumption, by assumption⟩
  ·omega
 ·omega
theorem Zia {kk : Nat → BitVec 32} {l : List Item} {k : Int} : (Zap kk l k).2 = Zf6 l k := by
 unfold Zap Zf6
 split
 ·split <;> rfl
 ·rfl
theorem Zzw {kk : Nat → BitVec 32} {l : List Item} {q : Nat} (h : Zec l) (hq : q ≤ l.length) : Zap kk l (q : Nat) = (acL kk l q, 0) := by
 unfold Zap
 rw [if_pos h, if_pos ⟨by omega, by omega⟩]; rfl
theorem Zq1 (l : List Item) (n c : Nat) (hn : l.length = n) (hc : n ≤ c) (hb : n ≤ 1048576) (k : Int) : Z6 Tryz.prog G 38 [slv 0 0 n c, Iv k] [rwR Zt l] (Iv (Zf6 l k)) [rwR Zt l] := by
  refine Za8 (fn := Tryz.f38) (nt := 16) rfl rfl rfl rfl ?_
  refine Zf (Zg (Zb (Iv 0) (Za (Zc (Zf (Zf (Zg (Zd (slv 0 0 n c) ?_))))))))
  refine Z2 (e := [some (0, 0)]) (nid := 0) (Zuc (G := G) l n c hn (by omega) (by omega)) (vals := [slv 0 0 n c]) (v := .bool (decide (Zec l))) (H' := [rwR Zt l]) rfl rfl rfl rfl rfl rfl rfl ⟨⟨⟨rfl, rfl, rfl, by first | omega | exact Nat.le_refl _, by first | omega | exact Nat.le_refl _⟩, trivial⟩, ⟨(Zds rfl), trivial⟩, rfl, rfl, rfl⟩ rfl (by kernel_rfl) ?_
  rcases Bool.eq_false_or_eq_true (decide (Zec l)) with h1 | h1
  refine Zg5 (vx := .bool (decide (Zec l))) rfl rfl (.bool false) rfl (Eq.trans Zd1 (congrArg (fun b => some (Value.bool !b)) h1)) ?_
  refine Za (Zc (Zu rfl (Z0 (Zc (Zf (Zf (Zg (Zd (Iv k) ?_))))))))
  by_cases h2 : k < 0
  refine Zl (vx := Iv k) (vy := Iv 0) rfl rfl (.bool true) rfl rfl (Zcc (by omega)) ?_
  refine Zd (.bool true) (Ze (Ze (Ze (Ze (Zi (.bool true) (Za (Zc (Zx rfl (Zf (Zg (Zb (Iv 21) (Za (Zc (Zq (Zz (Zr ?_))))))))))))))))
  rw [show Zf6 l k = 21 from by unfold Zf6; rw [if_pos (of_decide_eq_true (by assumption)), if_neg (by omega)]]
  exact Zk (v := Iv 21) rfl rfl rfl (by kernel_rfl) rfl
  refine Zl (vx := Iv k) (vy := Iv 0) rfl rfl (.bool false) rfl rfl (Zb5 (by omega)) ?_
  refine Zd (.bool false) (Zd (Iv k) (Zd (slv 0 0 n c) (Zcu (p := slv 0 0 n c) (v := Iv (n : Nat)) ?_)))
  by_cases h3 : (n : Nat) < k
  refine Zl (vx := Iv k) (vy := Iv (n : Nat)) rfl rfl (.bool true) rfl rfl (Zes (by omega)) ?_
  refine Zi (.bool true) (Za (Zc (Zx rfl (Zf (Zg (Zb (Iv 21) (Za (Zc (Zq (Zz (Zr ?_)))))))))))
  rw [show Zf6 l k = 21 from by unfold Zf6; rw [if_pos (of_decide_eq_true (by assumption)), if_neg (by omega)]]
  exact Zk (v := Iv 21) rfl rfl rfl (by kernel_rfl) rfl
  refine Zl (vx := Iv k) (vy := Iv (n : Nat)) rfl rfl (.bool false) rfl rfl (Zeq (by omega)) ?_
  refine Zi (.bool false) (Za (Zc (Zu rfl (Z0 (Zc (Zf (Zg (Zb (Iv 0) (Za (Zc (Zq (Zr ?_))))))))))))
  rw [show Zf6 l k = 0 from by unfold Zf6; rw [if_pos (of_decide_eq_true (by assumption)), if_pos (by omega)]]
  exact Zk (v := Iv 0) rfl rfl rfl (by kernel_rfl) rfl
  refine Zg5 (vx := .bool (decide (Zec l))) rfl rfl (.bool true) rfl (Eq.trans Zd1 (congrArg (fun b => some (Value.bool !b)) h1)) ?_
  refine Za (Zc (Zx rfl (Zf (Zg (Zb (Iv 100) (Za (Zc (Zq (Zz (Zr ?_))))))))))
  rw [show Zf6 l k = 100 from if_neg (of_decide_eq_false (by assumption))]
  exact Zk (v := Iv 100) rfl rfl rfl (by kernel_rfl) rfl
theorem Zv9 (kk : Nat → BitVec 32) (hG2 : G 2 = some (Zag w32 64 kk)) (l : List Item) (n c : Nat) (hn : l.length = n) (hc : n ≤ c) (hb : n ≤ 1048576) (k : Int) : Z6 Tryz.prog G 21 [slv 0 0 n c, Iv k] [rwR Zt l] (.tuple #[dgV (Zab kk l k).1, Iv (Zab kk l k).2]) [rwR Zt l] := by
  refine Za8 (fn := Tryz.f21) (nt := 19) rfl rfl rfl rfl ?_
  refine Zaa 2 (H' := [rwR Zt l, hole, hole]) rfl ?_
  refine Zf (Zg (Zam (b := dgB dz) (nid := 1) (H' := [rwR Zt l, dgB dz, hole]) (Zb (Iv 0) (Za (Zc (Zf (Zg (Zd (slv 0 0 n c) (Zd (Iv k) ?_)))))))))
  refine Z2 (e := [some (0, 0)]) (nid := 0) (Zq1 (G := G) l n c hn (by omega) (by omega) k) (vals := [slv 0 0 n c, Iv k]) (v := Iv (Zf6 l k)) (H' := [rwR Zt l, dgB dz, hole]) rfl rfl rfl rfl rfl rfl rfl ⟨⟨⟨rfl, rfl, rfl, by first | omega | exact Nat.le_refl _, by first | omega | exact Nat.le_refl _⟩, rfl, trivial⟩, ⟨(Zds rfl), trivial⟩, rfl, rfl, rfl⟩ rfl (by kernel_rfl) ?_
  refine Zb (Iv (Zf6 l k)) (Za (Zc (Zf (Zf (Zg (Zd (Iv (Zf6 l k)) ?_))))))
  by_cases h1 : (Zf6 l k) ≠ 0
  refine Zl (vx := Iv (Zf6 l k)) (vy := Iv 0) rfl rfl (.bool true) rfl rfl (Zea (by omega)) ?_
  refine Za (Zc (Zx rfl (Zf (Zg ?_))))
  refine Za5 (vs := []) (v := dgV dz) rfl rfl rfl (by kernel_rfl) ?_
  refine Zd (Iv (Zf6 l k)) (Z7 (p := pt 1 0) (v := dgV dz) (b := 1) (blk := dgB dz) (H' := [rwR Zt l, dgB dz, hole]) (Zb (Iv (Zf6 l k)) (Za (Zc (Zq (Zz (Zr ?_)))))))
  rw [show Zab kk l k = (dz, Zf6 l k) from by unfold Zab; rw [Zia, if_neg (by omega)]]
  exact Zk (v := .tuple #[dgV dz, Iv (Zf6 l k)]) (by kernel_rfl) rfl rfl (by simp [Za0, rwR, Zt]) ⟨(Zbm (Zbu fun _ => rfl) rfl), rfl, trivial⟩
  refine Zl (vx := Iv (Zf6 l k)) (vy := Iv 0) rfl rfl (.bool false) rfl rfl (Zdz (by omega)) ?_
  refine Za (Zc (Zu rfl (Z0 (Zc (Zf ?_)))))
  have hsz := Zuv (l := l) (k := k) (by omega)
  have hsz2 := hsz.2
  have h2000 := hsz.1.1
  have hkn : k ≤ (n : Int) := by omega
  obtain ⟨q, rfl⟩ : ∃ x0 : Nat, k = (x0 : Int) := ⟨k.toNat, by omega⟩
  refine Zg (Zd (slv 0 0 n c) (Zd (Iv (q : Nat)) ?_))
  refine Zc7 (p := slv 0 0 n c) (vl := none) (vh := some (Iv (q : Nat))) (v := slv 0 0 q c) rfl rfl rfl rfl rfl (Zfv (h := q) rfl rfl (by omega) (by omega) rfl) ?_
  refine Z2 (e := [some (0, 0)]) (nid := 2) (Znu (G := G) kk hG2 l q c (by have := hn; omega) (by omega) (by omega) (fun j hj => Zll l 0 j hsz.1.2 (by omega))) (vals := [slv 0 0 q c]) (v := slv 2 0 q q) (H' := [rwR Zt l, dgB dz, dsB (acL kk l q)]) rfl rfl rfl rfl rfl rfl rfl ⟨⟨⟨rfl, rfl, rfl, by omega, by omega⟩, trivial⟩, ⟨(Zds rfl), trivial⟩, rfl, rfl, rfl⟩ (by kernel_rfl) (by kernel_rfl) ?_
  refine Z2 (e := [some (2, 0)]) (nid := 0) (Zmp (G := G) kk hG2 q (acL kk l q) q (Zd2 kk l q) (by omega) (by omega)) (vals := [slv 2 0 q q]) (v := dgV (Zby kk (acL kk l q))) (H' := [rwR Zt l, dgB dz, dsB (acL kk l q)]) rfl rfl rfl rfl rfl rfl rfl ⟨⟨⟨rfl, rfl, rfl, by first | omega | exact Nat.le_refl _, by first | omega | exact Nat.le_refl _⟩, trivial⟩, ⟨(Zgd rfl), trivial⟩, rfl, rfl, rfl⟩ (by kernel_rfl) (by kernel_rfl) ?_
  refine Z7 (p := pt 1 0) (v := dgV (Zby kk (acL kk l q))) (b := 1) (blk := dgB (Zby kk (acL kk l q))) (H' := [rwR Zt l, dgB (Zby kk (acL kk l q)), dsB (acL kk l q)]) (Zb (Iv 0) (Za (Zc (Zq (Zr ?_)))))
  rw [show Zab kk l ((q : Nat) : Int) = (Zby kk (acL kk l q), 0) from by unfold Zab; rw [Zzw hsz.1 (by omega), if_pos rfl]]
  exact Zk (v := .tuple #[dgV (Zby kk (acL kk l q)), Iv 0]) (by kernel_rfl) rfl rfl (by simp [Za0, rwR, Zt]) ⟨(Zbm (Zbu fun _ => rfl) rfl), rfl, trivial⟩
end Go.Flat
namespace Go.Flat
open Go.Proofs
variable {G : Glob}
theorem Zw3 (kk : Nat → BitVec 32) (hG2 : G 2 = some (Zag w32 64 kk)) (l : List Item) (n c : Nat) (hn : l.length = n) (hc : n ≤ c) (hb : n ≤ 1048576) (k i : Int) : Z6 Tryz.prog G 23 [slv 0 0 n c, Iv k, Iv i] [rwR Zt l] (.tuple #[slv 1 0 (Zaf kk l k i).1.length (Zaf kk l k i).1.length, Iv (Zaf kk l k i).2]) [rwR Zt l, dsB (Zaf kk l k i).1] := by
  refine Za8 (fn := Tryz.f23) (nt := 28) rfl rfl rfl rfl ?_
  refine Zaa 2 (H' := [rwR Zt l, hole, hole]) rfl ?_
  refine Zf (Zg (Zb (.slice none 0 0) (Zb (Iv 0) (Za (Zc (Zf (Zg (Zd (slv 0 0 n c) (Zd (Iv k) ?_)))))))))
  refine Z2 (e := [some (0, 0)]) (nid := 0) (Zq1 (G := G) l n c hn (by omega) (by omega) k) (vals := [slv 0 0 n c, Iv k]) (v := Iv (Zf6 l k)) (H' := [rwR Zt l, hole, hole]) rfl rfl rfl rfl rfl rfl rfl ⟨⟨⟨rfl, rfl, rfl, by first | omega | exact Nat.le_refl _, by first | omega | exact Nat.le_refl _⟩, rfl, trivial⟩, ⟨(Zds rfl), trivial⟩, rfl, rfl, rfl⟩ rfl (by kernel_rfl) ?_
  refine Zb (Iv (Zf6 l k)) (Za (Zc (Zf (Zf (Zg (Zd (Iv (Zf6 l k)) ?_))))))
  by_cases h1 : (Zf6 l k) ≠ 0
  refine Zl (vx := Iv (Zf6 l k)) (vy := Iv 0) rfl rfl (.bool true) rfl rfl (Zea (by omega)) ?_
  refine Za (Zc (Zx rfl (Zf (Zg (Zd (Iv (Zf6 l k)) (Zb (.slice none 0 0) (Zb (Iv (Zf6 l k)) (Za (Zc ?_)))))))))
  refine Zbo (Zb6.nilTmp (i := 6) (b := 1) true 32 rfl (by decide) rfl) ?_
  refine Zq (Zz (Zr ?_))
  rw [show Zaf kk l k i = ([], Zf6 l k) from by unfold Zaf; rw [if_neg (fun q => by rw [Zia] at q; omega), Zia]]
  exact Zav [0, 1] (v := .tuple #[slv 1 0 0 0, Iv (Zf6 l k)]) rfl (by kernel_rfl) rfl rfl (by decide) (by simp [Za0, rwR, dsB, Zt]) ⟨⟨rfl, rfl, rfl, by first | omega | exact Nat.le_refl _ | exact Nat.zero_le _ | (dsimp only; omega), by first | omega | exact Nat.le_refl _ | exact Nat.zero_le _ | (dsimp only; omega)⟩, rfl, trivial⟩
  refine Zl (vx := Iv (Zf6 l k)) (vy := Iv 0) rfl rfl (.bool false) rfl rfl (Zdz (by omega)) ?_
  refine Za (Zc (Zu rfl (Z0 (Zc (Zf (Zf (Zg (Zd (Iv i) ?_))))))))
  by_cases h2 : i < 0
  refine Zl (vx := Iv i) (vy := Iv 0) rfl rfl (.bool true) rfl rfl (Zcc (by omega)) ?_
  refine Zd (.bool true) (Ze (Ze (Ze (Zi (.bool true) (Za (Zc (Zx rfl (Zf (Zg (Zb (.slice none 0 0) (Zb (Iv 20) (Za (Zc ?_)))))))))))))
  refine Zbo (Zb6.nilTmp (i := 6) (b := 1) true 32 rfl (by decide) rfl) ?_
  refine Zq (Zz (Zr ?_))
  have hsz := Zuv (l := l) (k := k) (by omega)
  have h3 : (Zap kk l k).1.length = k.toNat := by rw [(Zp2 (Zia.trans (by omega) : (Zap kk l k).2 = 0)).2.2.2]; exact Zd2 _ _ _
  have h4 := hsz.2.1
  rw [show Zaf kk l k i = ([], 20) from by unfold Zaf; rw [if_pos (Zia.trans (by omega)), if_neg (by omega)]]
  exact Zav [0, 1] (v := .tuple #[slv 1 0 0 0, Iv 20]) rfl (by kernel_rfl) rfl rfl (by decide) (by simp [Za0, rwR, dsB, Zt]) ⟨⟨rfl, rfl, rfl, by first | omega | exact Nat.le_refl _ | exact Nat.zero_le _ | (dsimp only; omega), by first | omega | exact Nat.le_refl _ | exact Nat.zero_le _ | (dsimp only; omega)⟩, rfl, trivial⟩
  refine Zl (vx := Iv i) (vy := Iv 0) rfl rfl (.bool false) rfl rfl (Zb5 (by omega)) ?_
  refine Zd (.bool false) (Zd (Iv i) (Zd (Iv k) ?_))
  by_cases h3 : k ≤ i
  refine Zl (vx := Iv i) (vy := Iv k) rfl rfl (.bool true) rfl rfl (Zgm (by omega)) ?_
  refine Zi (.bool true) (Za (Zc (Zx rfl (Zf (Zg (Zb (.slice none 0 0) (Zb (Iv 20) (Za (Zc ?_)))))))))
  refine Zbo (Zb6.nilTmp (i := 6) (b := 1) true 32 rfl (by decide) rfl) ?_
  refine Zq (Zz (Zr ?_))
  have hsz := Zuv (l := l) (k := k) (by omega)
  have h3 : (Zap kk l k).1.length = k.toNat := by rw [(Zp2 (Zia.trans (by omega) : (Zap kk l k).2 = 0)).2.2.2]; exact Zd2 _ _ _
  have h4 := hsz.2.1
  rw [show Zaf kk l k i = ([], 20) from by unfold Zaf; rw [if_pos (Zia.trans (by omega)), if_neg (by omega)]]
  exact Zav [0, 1] (v := .tuple #[slv 1 0 0 0, Iv 20]) rfl (by kernel_rfl) rfl rfl (by decide) (by simp [Za0, rwR, dsB, Zt]) ⟨⟨rfl, rfl, rfl, by first | omega | exact Nat.le_refl _ | exact Nat.zero_le _ | (dsimp only; omega), by first | omega | exact Nat.le_refl _ | exact Nat.zero_le _ | (dsimp only; omega)⟩, rfl, trivial⟩
  refine Zl (vx := Iv i) (vy := Iv k) rfl rfl (.bool false) rfl rfl (Zg1 (by omega)) ?_
  refine Zi (.bool false) (Za (Zc (Zu rfl (Z0 (Zc (Zf ?_))))))
  have hsz := Zuv (l := l) (k := k) (by omega)
  have hsz2 := hsz.2
  have h2000 := hsz.1.1
  have hkn : k ≤ (n : Int) := by omega
  obtain ⟨q, rfl⟩ : ∃ x0 : Nat, k = (x0 : Int) := ⟨k.toNat, by omega⟩
  have hql : (acL kk l q).length = q := Zd2 kk l q
  refine Zg (Zd (slv 0 0 n c) (Zd (Iv (q : Nat)) ?_))
  refine Zc7 (p := slv 0 0 n c) (vl := none) (vh := some (Iv (q : Nat))) (v := slv 0 0 q c) rfl rfl rfl rfl rfl (Zfv (h := q) rfl rfl (by omega) (by omega) rfl) ?_
  refine Z2 (e := [some (0, 0)]) (nid := 1) (Znu (G := G) kk hG2 l q c (by have := hn; omega) (by omega) (by omega) (fun j hj => Zll l 0 j hsz.1.2 (by omega))) (vals := [slv 0 0 q c]) (v := slv 1 0 q q) (H' := [rwR Zt l, dsB (acL kk l q), hole]) rfl rfl rfl rfl rfl rfl rfl ⟨⟨⟨rfl, rfl, rfl, by omega, by omega⟩, trivial⟩, ⟨(Zds rfl), trivial⟩, rfl, rfl, rfl⟩ (by kernel_rfl) (by kernel_rfl) ?_
  refine Zd (Iv i) ?_
  refine Z2 (e := [some (1, 0)]) (nid := 2) (Zye (G := G) kk hG2 q (acL kk l q) q i.toNat (Zd2 kk l q) (by omega) (by omega) (by omega)) (vals := [slv 1 0 q q, Iv i]) (v := slv 2 0 ((Zcp kk (acL kk l q) i.toNat).length) ((Zcp kk (acL kk l q) i.toNat).length)) (H' := [rwR Zt l, dsB (acL kk l q), dsB (Zcp kk (acL kk l q) i.toNat)]) rfl rfl rfl rfl rfl rfl rfl ⟨⟨⟨rfl, rfl, rfl, by first | omega | exact Nat.le_refl _, by first | omega | exact Nat.le_refl _⟩, (congrArg (Value.int .i64) (by omega)), trivial⟩, ⟨(Zgd rfl), trivial⟩, rfl, rfl, rfl⟩ (by kernel_rfl) (by kernel_rfl) ?_
  refine Zb (slv 2 0 ((Zcp kk (acL kk l q) i.toNat).length) ((Zcp kk (acL kk l q) i.toNat).length)) (Zb (Iv 0) (Za (Zc (Zq (Zr ?_)))))
  rw [show Zaf kk l ((q : Nat) : Int) i = (Zcp kk (acL kk l q) i.toNat, 0) from by unfold Zaf; rw [Zzw hsz.1 (by omega), if_pos rfl, if_pos ⟨by omega, by show i < ((acL kk l q).length : Int); omega⟩]]
  exact Zav [0, 2] (v := .tuple #[slv 2 0 ((Zcp kk (acL kk l q) i.toNat).length) ((Zcp kk (acL kk l q) i.toNat).length), Iv 0]) rfl (by kernel_rfl) rfl rfl (by decide) (by simp [Za0, rwR, dsB, Zt]) ⟨⟨rfl, rfl, rfl, by first | omega | exact Nat.le_refl _ | exact Nat.zero_le _ | (dsimp only; omega), by first | omega | exact Nat.le_refl _ | exact Nat.zero_le _ | (dsimp only; omega)⟩, rfl, trivial⟩
end Go.Flat
namespace Go.Flat
open Go.Proofs
variable {G : Glob}
theorem Zyl (ds : List D) (n c c' : Nat) (hn : ds.length = n) (hb : n ≤ 1000000) : Z6 Tryz.prog G 24 [slv 0 0 n c, slv 1 0 n c'] [dsR ds, dsR ds] (.bool true) [dsR ds, dsR ds] := by
 subst hn
 have h := Zys (G := G) ds ds c c' hb hb
 rw [Zvh] at h; exact h
theorem Zul (l : List Item) (n c d : Nat) (hn : l.length = n) (hc : n ≤ c) (hd : n ≤ d) (hb : n ≤ 1048576) : Z6 Tryz.prog G 11 [slv 0 0 n c, slv 1 0 n d] [rwR Zt l, rwR Zt l] (.bool true) [rwR Zt l, rwR Zt l] := by
 have q := Zyb (G := G) l l n c n d hn hn hc hd hb hb
 rw [Zyv] at q; exact q
theorem Ztf (kk : Nat → BitVec 32) (l : List Item) (i : Int) (s : Signed) : (Zv kk l i s).1.proof.length ≤ 1000 := by
 unfold Zv
 split
 ·split
  ·exact Zjk kk l _ _
  ·exact Nat.zero_le _
 ·exact Nat.zero_le _
abbrev Y32  : Blk := mxB 181 ([Iv 0] ++ (Zs (⟨0, (⟨0, 0, 0, ⟨#[]⟩, (⟨(⟨0, 0, 0, dz, 0⟩ : Head), 0, dz⟩ : Signed), (⟨0, 0, 0, 0, dz⟩ : Claim)⟩ : Entry)⟩ : Item) ++ ([.slice none 0 0] ++ (Zj (⟨(⟨0, 0, 0, dz, 0⟩ : Head), 0, dz⟩ : Signed)))))
theorem Zxt (kk : Nat → BitVec 32) (hG2 : G 2 = some (Zag w32 64 kk)) (l : List Item) (n c : Nat) (hn : l.length = n) (hc : n ≤ c) (hb : n ≤ 1048576) (i : Int) (s : Signed) : Z6 Tryz.prog G 8 [slv 0 0 n c, Iv i, Zy s] [rwR Zt l] (.tuple #[mxV ([Iv ((Zv kk l i s).1.index)] ++ (Zs ((Zv kk l i s).1.item) ++ ([slv 1 0 ((Zv kk l i s).1.proof.length) ((Zv kk l i s).1.proof.length)] ++ (Zj ((Zv kk l i s).1.head))))), Iv (Zv kk l i s).2]) [rwR Zt l, dsB (Zv kk l i s).1.proof] := by
  refine Za8 (fn := Tryz.f8) (nt := 54) rfl rfl rfl rfl ?_
  refine Zaa 5 (H' := [rwR Zt l, hole, hole, hole, hole, hole]) rfl ?_
  refine Zf (Zg (Zbq (v := Zy s) (b := bxB 69 (Zj s)) (nid := 1) (H' := [rwR Zt l, bxB 69 (Zj s), hole, hole, hole, hole]) (Zam (b := mxB 181 ([Iv 0] ++ (Zs (⟨0, (⟨0, 0, 0, ⟨#[]⟩, (⟨(⟨0, 0, 0, dz, 0⟩ : Head), 0, dz⟩ : Signed), (⟨0, 0, 0, 0, dz⟩ : Claim)⟩ : Entry)⟩ : Item) ++ ([.slice none 0 0] ++ (Zj (⟨(⟨0, 0, 0, dz, 0⟩ : Head), 0, dz⟩ : Signed)))))) (nid := 2) (H' := [rwR Zt l, bxB 69 (Zj s), Y32, hole, hole, hole]) (Zb (Iv 0) (Za (Zc (Zf (Zg (Zd (slv 0 0 n c) (Zh (b := 1) (o := 0) (n := 0) (o' := 0) (Zh (b := 1) (o := 0) (n := 2) (o' := 2) (Zp (p := pt 1 2) (v := Iv s.head.size) ?_))))))))))))
  refine Z2 (e := [some (0, 0)]) (nid := 0) (Zv9 (G := G) kk hG2 l n c hn (by omega) (by omega) s.head.size) (vals := [slv 0 0 n c, Iv s.head.size]) (v := .tuple #[dgV ((Zab kk l s.head.size).1), Iv ((Zab kk l s.head.size).2)]) (H' := [rwR Zt l, bxB 69 (Zj s), Y32, hole, hole, hole]) rfl rfl rfl rfl rfl rfl rfl ⟨⟨⟨rfl, rfl, rfl, by first | omega | exact Nat.le_refl _, by first | omega | exact Nat.le_refl _⟩, rfl, trivial⟩, ⟨(Zds rfl), trivial⟩, rfl, rfl, rfl⟩ (by kernel_rfl) (by kernel_rfl) ?_
  refine Zd (.tuple #[dgV ((Zab kk l s.head.size).1), Iv ((Zab kk l s.head.size).2)]) (Zw (vs := #[dgV ((Zab kk l s.head.size).1), Iv ((Zab kk l s.head.size).2)]) (v := dgV ((Zab kk l s.head.size).1)) (Zw (vs := #[dgV ((Zab kk l s.head.size).1), Iv ((Zab kk l s.head.size).2)]) (v := Iv ((Zab kk l s.head.size).2)) (Zam (b := dgB dz) (nid := 3) (H' := [rwR Zt l, bxB 69 (Zj s), Y32, dgB dz, hole, hole]) (Z7 (p := pt 3 0) (v := dgV ((Zab kk l s.head.size).1)) (b := 3) (blk := dgB ((Zab kk l s.head.size).1)) (H' := [rwR Zt l, bxB 69 (Zj s), Y32, dgB ((Zab kk l s.head.size).1), hole, hole]) (Zb (Iv ((Zab kk l s.head.size).2)) (Za (Zc (Zf (Zf (Zg (Zd (Iv ((Zab kk l s.head.size).2)) ?_)))))))))))
  by_cases h1 : ((Zab kk l s.head.size).2) ≠ 0
  refine Zl (vx := Iv ((Zab kk l s.head.size).2)) (vy := Iv 0) rfl rfl (.bool true) rfl rfl (Zea (by omega)) ?_
  refine Zd (.bool true) (Ze (Ze (Ze (Ze (Ze (Zi (.bool true) (Zd (.bool true) (Ze (Ze (Ze (Zi (.bool true) (Za (Zc (Zx rfl (Zf (Zg ?_))))))))))))))))
  refine Za5 (vs := []) (v := mxV ([Iv 0] ++ (Zs (⟨0, (⟨0, 0, 0, ⟨#[]⟩, (⟨(⟨0, 0, 0, dz, 0⟩ : Head), 0, dz⟩ : Signed), (⟨0, 0, 0, 0, dz⟩ : Claim)⟩ : Entry)⟩ : Item) ++ ([.slice none 0 0] ++ (Zj (⟨(⟨0, 0, 0, dz, 0⟩ : Head), 0, dz⟩ : Signed)))))) rfl rfl rfl (by kernel_rfl) ?_
  refine Z7 (p := pt 2 0) (v := mxV ([Iv 0] ++ (Zs (⟨0, (⟨0, 0, 0, ⟨#[]⟩, (⟨(⟨0, 0, 0, dz, 0⟩ : Head), 0, dz⟩ : Signed), (⟨0, 0, 0, 0, dz⟩ : Claim)⟩ : Entry)⟩ : Item) ++ ([.slice none 0 0] ++ (Zj (⟨(⟨0, 0, 0, dz, 0⟩ : Head), 0, dz⟩ : Signed)))))) (b := 2) (blk := mxB 181 ([Iv 0] ++ (Zs (⟨0, (⟨0, 0, 0, ⟨#[]⟩, (⟨(⟨0, 0, 0, dz, 0⟩ : Head), 0, dz⟩ : Signed), (⟨0, 0, 0, 0, dz⟩ : Claim)⟩ : Entry)⟩ : Item) ++ ([.slice none 0 0] ++ (Zj (⟨(⟨0, 0, 0, dz, 0⟩ : Head), 0, dz⟩ : Signed)))))) (H' := [rwR Zt l, bxB 69 (Zj s), Y32, dgB ((Zab kk l s.head.size).1), hole, hole]) (Zb (Iv 130) (Za (Zc ?_)))
  refine Zbo (Zb6.nilCell (k := 2) (j := 111) (b := 4) true 32 rfl (by decide) rfl (by show 0 < 181; decide) rfl rfl) ?_
  refine Zq (Zz (Zr ?_))
  rw [show Zv kk l i s = ((⟨0, (⟨0, (⟨0, 0, 0, ⟨#[]⟩, (⟨(⟨0, 0, 0, dz, 0⟩ : Head), 0, dz⟩ : Signed), (⟨0, 0, 0, 0, dz⟩ : Claim)⟩ : Entry)⟩ : Item), [], (⟨(⟨0, 0, 0, dz, 0⟩ : Head), 0, dz⟩ : Signed)⟩ : PStep), 130) from by first | exact Zj3 (by first | exact .inl (by omega) | exact .inr (.inr (by assumption)) | exact .inr (.inl (of_decide_eq_false (by assumption)))) | exact Zkc (by omega) (of_decide_eq_true (by assumption)) (by assumption) (by omega)]
  exact Zav [0, 4] (v := .tuple #[mxV ([Iv 0] ++ (Zs (⟨0, (⟨0, 0, 0, ⟨#[]⟩, (⟨(⟨0, 0, 0, dz, 0⟩ : Head), 0, dz⟩ : Signed), (⟨0, 0, 0, 0, dz⟩ : Claim)⟩ : Entry)⟩ : Item) ++ ([slv 4 0 0 0] ++ (Zj (⟨(⟨0, 0, 0, dz, 0⟩ : Head), 0, dz⟩ : Signed))))), Iv 130]) rfl (by kernel_rfl) rfl rfl (by decide) (by simp [Za0, rwR, dsB, Zt]) ⟨(Ze7 (by kernel_rfl) (Zan ⟨⟨rfl, rfl⟩, trivial⟩ (Zan (Za6 (by kernel_rfl)) (Zan ⟨⟨rfl, rfl, rfl, by first | omega | exact Nat.le_refl _ | exact Nat.zero_le _ | (dsimp only; omega), by first | omega | exact Nat.le_refl _ | exact Nat.zero_le _ | (dsimp only; omega)⟩, trivial⟩ (Za6 (by kernel_rfl)))))), rfl, trivial⟩
  refine Zl (vx := Iv ((Zab kk l s.head.size).2)) (vy := Iv 0) rfl rfl (.bool false) rfl rfl (Zdz (by omega)) ?_
  refine Zd (.bool false) (Zp (p := pt 3 0) (v := dgV ((Zab kk l s.head.size).1)) (Zh (b := 1) (o := 0) (n := 0) (o' := 0) (Zh (b := 1) (o := 0) (n := 3) (o' := 3) (Zp (p := pt 1 3) (v := dgV s.head.root) ?_))))
  rcases Bool.eq_false_or_eq_true (Zcv 32 ((Zab kk l s.head.size).1) s.head.root) with h2 | h2
  refine Zl (vx := dgV ((Zab kk l s.head.size).1)) (vy := dgV s.head.root) rfl rfl (.bool false) rfl rfl (Eq.trans (Zk1 (n := 32) (a := (Zab kk l s.head.size).1) (b := s.head.root) (by kernel_rfl) rfl rfl rfl) (by rw [h2] <;> rfl)) ?_
  refine Zi (.bool false) (Zd (.bool false) (Zp (p := pt 1 0) (v := Zy s) ?_))
  refine Zo (Zsy (G := G) s) (vals := [Zy s]) (res' := .bool (decide (Zf4 s))) rfl rfl rfl rfl rfl rfl ?_
  rcases Bool.eq_false_or_eq_true (decide (Zf4 s)) with h3 | h3
  refine Zg5 (vx := .bool (decide (Zf4 s))) rfl rfl (.bool false) rfl (Eq.trans Zd1 (congrArg (fun b => some (Value.bool !b)) h3)) ?_
  refine Zi (.bool false) (Za (Zc (Zu rfl (Z0 (Zc (Zf (Zg (Zd (slv 0 0 n c) (Zh (b := 1) (o := 0) (n := 0) (o' := 0) (Zh (b := 1) (o := 0) (n := 2) (o' := 2) (Zp (p := pt 1 2) (v := Iv s.head.size) (Zd (Iv i) ?_))))))))))))
  have hpl3 := Zjk kk l s.head.size i
  refine Z2 (e := [some (0, 0)]) (nid := 4) (Zw3 (G := G) kk hG2 l n c hn (by omega) (by omega) s.head.size i) (vals := [slv 0 0 n c, Iv s.head.size, Iv i]) (v := .tuple #[slv 4 0 ((Zaf kk l s.head.size i).1.length) ((Zaf kk l s.head.size i).1.length), Iv ((Zaf kk l s.head.size i).2)]) (H' := [rwR Zt l, bxB 69 (Zj s), Y32, dgB ((Zab kk l s.head.size).1), dsB ((Zaf kk l s.head.size i).1), hole]) rfl rfl rfl rfl rfl rfl rfl ⟨⟨⟨rfl, rfl, rfl, by first | omega | exact Nat.le_refl _, by first | omega | exact Nat.le_refl _⟩, rfl, rfl, trivial⟩, ⟨(Zds rfl), trivial⟩, rfl, rfl, rfl⟩ (by kernel_rfl) (by kernel_rfl) ?_
  refine Zd (.tuple #[slv 4 0 ((Zaf kk l s.head.size i).1.length) ((Zaf kk l s.head.size i).1.length), Iv ((Zaf kk l s.head.size i).2)]) (Zw (vs := #[slv 4 0 ((Zaf kk l s.head.size i).1.length) ((Zaf kk l s.head.size i).1.length), Iv ((Zaf kk l s.head.size i).2)]) (v := slv 4 0 ((Zaf kk l s.head.size i).1.length) ((Zaf kk l s.head.size i).1.length)) (Zw (vs := #[slv 4 0 ((Zaf kk l s.head.size i).1.length) ((Zaf kk l s.head.size i).1.length), Iv ((Zaf kk l s.head.size i).2)]) (v := Iv ((Zaf kk l s.head.size i).2)) (Zb (slv 4 0 ((Zaf kk l s.head.size i).1.length) ((Zaf kk l s.head.size i).1.length)) (Zb (Iv ((Zaf kk l s.head.size i).2)) (Za (Zc (Zf (Zf (Zg (Zd (Iv ((Zaf kk l s.head.size i).2)) ?_))))))))))
  by_cases h4 : ((Zaf kk l s.head.size i).2) ≠ 0
  refine Zl (vx := Iv ((Zaf kk l s.head.size i).2)) (vy := Iv 0) rfl rfl (.bool true) rfl rfl (Zea (by omega)) ?_
  refine Za (Zc (Zx rfl (Zf (Zg ?_))))
  refine Za5 (vs := []) (v := mxV ([Iv 0] ++ (Zs (⟨0, (⟨0, 0, 0, ⟨#[]⟩, (⟨(⟨0, 0, 0, dz, 0⟩ : Head), 0, dz⟩ : Signed), (⟨0, 0, 0, 0, dz⟩ : Claim)⟩ : Entry)⟩ : Item) ++ ([.slice none 0 0] ++ (Zj (⟨(⟨0, 0, 0, dz, 0⟩ : Head), 0, dz⟩ : Signed)))))) rfl rfl rfl (by kernel_rfl) ?_
  refine Z7 (p := pt 2 0) (v := mxV ([Iv 0] ++ (Zs (⟨0, (⟨0, 0, 0, ⟨#[]⟩, (⟨(⟨0, 0, 0, dz, 0⟩ : Head), 0, dz⟩ : Signed), (⟨0, 0, 0, 0, dz⟩ : Claim)⟩ : Entry)⟩ : Item) ++ ([.slice none 0 0] ++ (Zj (⟨(⟨0, 0, 0, dz, 0⟩ : Head), 0, dz⟩ : Signed)))))) (b := 2) (blk := mxB 181 ([Iv 0] ++ (Zs (⟨0, (⟨0, 0, 0, ⟨#[]⟩, (⟨(⟨0, 0, 0, dz, 0⟩ : Head), 0, dz⟩ : Signed), (⟨0, 0, 0, 0, dz⟩ : Claim)⟩ : Entry)⟩ : Item) ++ ([.slice none 0 0] ++ (Zj (⟨(⟨0, 0, 0, dz, 0⟩ : Head), 0, dz⟩ : Signed)))))) (H' := [rwR Zt l, bxB 69 (Zj s), Y32, dgB ((Zab kk l s.head.size).1), dsB ((Zaf kk l s.head.size i).1), hole]) (Zb (Iv 131) (Za (Zc ?_)))
  refine Zbo (Zb6.nilCell (k := 2) (j := 111) (b := 5) true 32 rfl (by decide) rfl (by show 0 < 181; decide) rfl rfl) ?_
  refine Zq (Zz (Zr ?_))
  rw [show Zv kk l i s = ((⟨0, (⟨0, (⟨0, 0, 0, ⟨#[]⟩, (⟨(⟨0, 0, 0, dz, 0⟩ : Head), 0, dz⟩ : Signed), (⟨0, 0, 0, 0, dz⟩ : Claim)⟩ : Entry)⟩ : Item), [], (⟨(⟨0, 0, 0, dz, 0⟩ : Head), 0, dz⟩ : Signed)⟩ : PStep), 131) from by first | exact Zj3 (by first | exact .inl (by omega) | exact .inr (.inr (by assumption)) | exact .inr (.inl (of_decide_eq_false (by assumption)))) | exact Zkc (by omega) (of_decide_eq_true (by assumption)) (by assumption) (by omega)]
  exact Zav [0, 5] (v := .tuple #[mxV ([Iv 0] ++ (Zs (⟨0, (⟨0, 0, 0, ⟨#[]⟩, (⟨(⟨0, 0, 0, dz, 0⟩ : Head), 0, dz⟩ : Signed), (⟨0, 0, 0, 0, dz⟩ : Claim)⟩ : Entry)⟩ : Item) ++ ([slv 5 0 0 0] ++ (Zj (⟨(⟨0, 0, 0, dz, 0⟩ : Head), 0, dz⟩ : Signed))))), Iv 131]) rfl (by kernel_rfl) rfl rfl (by decide) (by simp [Za0, rwR, dsB, Zt]) ⟨(Ze7 (by kernel_rfl) (Zan ⟨⟨rfl, rfl⟩, trivial⟩ (Zan (Za6 (by kernel_rfl)) (Zan ⟨⟨rfl, rfl, rfl, by first | omega | exact Nat.le_refl _ | exact Nat.zero_le _ | (dsimp only; omega), by first | omega | exact Nat.le_refl _ | exact Nat.zero_le _ | (dsimp only; omega)⟩, trivial⟩ (Za6 (by kernel_rfl)))))), rfl, trivial⟩
  refine Zl (vx := Iv ((Zaf kk l s.head.size i).2)) (vy := Iv 0) rfl rfl (.bool false) rfl rfl (Zdz (by omega)) ?_
  refine Za (Zc (Zu rfl (Z0 (Zc (Zf ?_)))))
  have hin := Z0v (by omega : (Zaf kk l s.head.size i).2 = 0)
  refine Zc1 (by kernel_rfl) ?_
  refine Zd (Iv i) (Zd (slv 0 0 n c) (Zd (Iv i) ?_))
  refine Zbe (b := 0) (o := 0) (j := i.toNat * 110) (m := n) (c := c) (sz := 110) (i := i) (k := .i64) rfl rfl rfl rfl rfl (by omega) (by omega) (by omega) ?_
  refine Zad (p := pt 0 (i.toNat * 110)) (v := Za9 (l.getD i.toNat default)) rfl rfl rfl (Zhf (n := 0) (m := 110) Zt rfl rfl rfl rfl (by have := hn; omega) (by omega)) ?_
  refine Zd (slv 4 0 ((Zaf kk l s.head.size i).1.length) ((Zaf kk l s.head.size i).1.length)) (Zp (p := pt 1 0) (v := Zy s) ?_)
  refine Za5 (vs := [(0, Iv i), (1, Za9 (l.getD i.toNat default)), (2, slv 4 0 ((Zaf kk l s.head.size i).1.length) ((Zaf kk l s.head.size i).1.length)), (3, Zy s)]) (v := mxV ([Iv i] ++ (Zs (l.getD i.toNat default) ++ ([slv 4 0 ((Zaf kk l s.head.size i).1.length) ((Zaf kk l s.head.size i).1.length)] ++ (Zj s))))) rfl rfl rfl (by kernel_rfl) ?_
  refine Z7 (p := pt 2 0) (v := mxV ([Iv i] ++ (Zs (l.getD i.toNat default) ++ ([slv 4 0 ((Zaf kk l s.head.size i).1.length) ((Zaf kk l s.head.size i).1.length)] ++ (Zj s))))) (b := 2) (blk := mxB 181 ([Iv i] ++ (Zs (l.getD i.toNat default) ++ ([slv 4 0 ((Zaf kk l s.head.size i).1.length) ((Zaf kk l s.head.size i).1.length)] ++ (Zj s))))) (H' := [rwR Zt l, bxB 69 (Zj s), mxB 181 ([Iv i] ++ (Zs (l.getD i.toNat default) ++ ([slv 4 0 ((Zaf kk l s.head.size i).1.length) ((Zaf kk l s.head.size i).1.length)] ++ (Zj s)))), dgB ((Zab kk l s.head.size).1), dsB ((Zaf kk l s.head.size i).1), hole]) (Zb (Iv 0) ?_)
  refine Zb3 (Zgj [[], [], [], [1, 2], [1, 2, 3], [], [], [0, 1, 2, 3, 4, 5, 6], [0, 1, 2, 3, 4, 5, 6, 7], [0, 1, 2, 3, 4, 5, 6, 7, 8]] (by kernel_rfl) (by kernel_rfl)) ?_
  refine Zc (Zq (Zr ?_))
  rw [show Zv kk l i s = ((⟨i, l.getD i.toNat default, (Zaf kk l s.head.size i).1, s⟩ : PStep), 0) from Zy9 (by omega) (of_decide_eq_true (by assumption)) (by assumption) (by omega)]
  exact Zav [0, 4] (v := .tuple #[mxV ([Iv i] ++ (Zs (l.getD i.toNat default) ++ ([slv 4 0 ((Zaf kk l s.head.size i).1.length) ((Zaf kk l s.head.size i).1.length)] ++ (Zj s)))), Iv 0]) rfl (by kernel_rfl) rfl rfl (by decide) (by simp [Za0, rwR, dsB, Zt]) ⟨(Ze7 (by kernel_rfl) (Zan ⟨⟨rfl, rfl⟩, trivial⟩ (Zan (Za6 (by kernel_rfl)) (Zan ⟨⟨rfl, rfl, rfl, by first | omega | exact Nat.le_refl _ | exact Nat.zero_le _ | (dsimp only; omega), by first | omega | exact Nat.le_refl _ | exact Nat.zero_le _ | (dsimp only; omega)⟩, trivial⟩ (Za6 (by kernel_rfl)))))), rfl, trivial⟩
  refine Zg5 (vx := .bool (decide (Zf4 s))) rfl rfl (.bool true) rfl (Eq.trans Zd1 (congrArg (fun b => some (Value.bool !b)) h3)) ?_
  refine Zi (.bool true) (Za (Zc (Zx rfl (Zf (Zg ?_)))))
  refine Za5 (vs := []) (v := mxV ([Iv 0] ++ (Zs (⟨0, (⟨0, 0, 0, ⟨#[]⟩, (⟨(⟨0, 0, 0, dz, 0⟩ : Head), 0, dz⟩ : Signed), (⟨0, 0, 0, 0, dz⟩ : Claim)⟩ : Entry)⟩ : Item) ++ ([.slice none 0 0] ++ (Zj (⟨(⟨0, 0, 0, dz, 0⟩ : Head), 0, dz⟩ : Signed)))))) rfl rfl rfl (by kernel_rfl) ?_
  refine Z7 (p := pt 2 0) (v := mxV ([Iv 0] ++ (Zs (⟨0, (⟨0, 0, 0, ⟨#[]⟩, (⟨(⟨0, 0, 0, dz, 0⟩ : Head), 0, dz⟩ : Signed), (⟨0, 0, 0, 0, dz⟩ : Claim)⟩ : Entry)⟩ : Item) ++ ([.slice none 0 0] ++ (Zj (⟨(⟨0, 0, 0, dz, 0⟩ : Head), 0, dz⟩ : Signed)))))) (b := 2) (blk := mxB 181 ([Iv 0] ++ (Zs (⟨0, (⟨0, 0, 0, ⟨#[]⟩, (⟨(⟨0, 0, 0, dz, 0⟩ : Head), 0, dz⟩ : Signed), (⟨0, 0, 0, 0, dz⟩ : Claim)⟩ : Entry)⟩ : Item) ++ ([.slice none 0 0] ++ (Zj (⟨(⟨0, 0, 0, dz, 0⟩ : Head), 0, dz⟩ : Signed)))))) (H' := [rwR Zt l, bxB 69 (Zj s), Y32, dgB ((Zab kk l s.head.size).1), hole, hole]) (Zb (Iv 130) (Za (Zc ?_)))
  refine Zbo (Zb6.nilCell (k := 2) (j := 111) (b := 4) true 32 rfl (by decide) rfl (by show 0 < 181; decide) rfl rfl) ?_
  refine Zq (Zz (Zr ?_))
  rw [show Zv kk l i s = ((⟨0, (⟨0, (⟨0, 0, 0, ⟨#[]⟩, (⟨(⟨0, 0, 0, dz, 0⟩ : Head), 0, dz⟩ : Signed), (⟨0, 0, 0, 0, dz⟩ : Claim)⟩ : Entry)⟩ : Item), [], (⟨(⟨0, 0, 0, dz, 0⟩ : Head), 0, dz⟩ : Signed)⟩ : PStep), 130) from by first | exact Zj3 (by first | exact .inl (by omega) | exact .inr (.inr (by assumption)) | exact .inr (.inl (of_decide_eq_false (by assumption)))) | exact Zkc (by omega) (of_decide_eq_true (by assumption)) (by assumption) (by omega)]
  exact Zav [0, 4] (v := .tuple #[mxV ([Iv 0] ++ (Zs (⟨0, (⟨0, 0, 0, ⟨#[]⟩, (⟨(⟨0, 0, 0, dz, 0⟩ : Head), 0, dz⟩ : Signed), (⟨0, 0, 0, 0, dz⟩ : Claim)⟩ : Entry)⟩ : Item) ++ ([slv 4 0 0 0] ++ (Zj (⟨(⟨0, 0, 0, dz, 0⟩ : Head), 0, dz⟩ : Signed))))), Iv 130]) rfl (by kernel_rfl) rfl rfl (by decide) (by simp [Za0, rwR, dsB, Zt]) ⟨(Ze7 (by kernel_rfl) (Zan ⟨⟨rfl, rfl⟩, trivial⟩ (Zan (Za6 (by kernel_rfl)) (Zan ⟨⟨rfl, rfl, rfl, by first | omega | exact Nat.le_refl _ | exact Nat.zero_le _ | (dsimp only; omega), by first | omega | exact Nat.le_refl _ | exact Nat.zero_le _ | (dsimp only; omega)⟩, trivial⟩ (Za6 (by kernel_rfl)))))), rfl, trivial⟩
  refine Zl (vx := dgV ((Zab kk l s.head.size).1)) (vy := dgV s.head.root) rfl rfl (.bool true) rfl rfl (Eq.trans (Zk1 (n := 32) (a := (Zab kk l s.head.size).1) (b := s.head.root) (by kernel_rfl) rfl rfl rfl) (by rw [h2] <;> rfl)) ?_
  refine Zi (.bool true) (Zd (.bool true) (Ze (Ze (Ze (Zi (.bool true) (Za (Zc (Zx rfl (Zf (Zg ?_))))))))))
  refine Za5 (vs := []) (v := mxV ([Iv 0] ++ (Zs (⟨0, (⟨0, 0, 0, ⟨#[]⟩, (⟨(⟨0, 0, 0, dz, 0⟩ : Head), 0, dz⟩ : Signed), (⟨0, 0, 0, 0, dz⟩ : Claim)⟩ : Entry)⟩ : Item) ++ ([.slice none 0 0] ++ (Zj (⟨(⟨0, 0, 0, dz, 0⟩ : Head), 0, dz⟩ : Signed)))))) rfl rfl rfl (by kernel_rfl) ?_
  refine Z7 (p := pt 2 0) (v := mxV ([Iv 0] ++ (Zs (⟨0, (⟨0, 0, 0, ⟨#[]⟩, (⟨(⟨0, 0, 0, dz, 0⟩ : Head), 0, dz⟩ : Signed), (⟨0, 0, 0, 0, dz⟩ : Claim)⟩ : Entry)⟩ : Item) ++ ([.slice none 0 0] ++ (Zj (⟨(⟨0, 0, 0, dz, 0⟩ : Head), 0, dz⟩ : Signed)))))) (b := 2) (blk := mxB 181 ([Iv 0] ++ (Zs (⟨0, (⟨0, 0, 0, ⟨#[]⟩, (⟨(⟨0, 0, 0, dz, 0⟩ : Head), 0, dz⟩ : Signed), (⟨0, 0, 0, 0, dz⟩ : Claim)⟩ : Entry)⟩ : Item) ++ ([.slice none 0 0] ++ (Zj (⟨(⟨0, 0, 0, dz, 0⟩ : Head), 0, dz⟩ : Signed)))))) (H' := [rwR Zt l, bxB 69 (Zj s), Y32, dgB ((Zab kk l s.head.size).1), hole, hole]) (Zb (Iv 130) (Za (Zc ?_)))
  refine Zbo (Zb6.nilCell (k := 2) (j := 111) (b := 4) true 32 rfl (by decide) rfl (by show 0 < 181; decide) rfl rfl) ?_
  refine Zq (Zz (Zr ?_))
  rw [show Zv kk l i s = ((⟨0, (⟨0, (⟨0, 0, 0, ⟨#[]⟩, (⟨(⟨0, 0, 0, dz, 0⟩ : Head), 0, dz⟩ : Signed), (⟨0, 0, 0, 0, dz⟩ : Claim)⟩ : Entry)⟩ : Item), [], (⟨(⟨0, 0, 0, dz, 0⟩ : Head), 0, dz⟩ : Signed)⟩ : PStep), 130) from by first | exact Zj3 (by first | exact .inl (by omega) | exact .inr (.inr (by assumption)) | exact .inr (.inl (of_decide_eq_false (by assumption)))) | exact Zkc (by omega) (of_decide_eq_true (by assumption)) (by assumption) (by omega)]
  exact Zav [0, 4] (v := .tuple #[mxV ([Iv 0] ++ (Zs (⟨0, (⟨0, 0, 0, ⟨#[]⟩, (⟨(⟨0, 0, 0, dz, 0⟩ : Head), 0, dz⟩ : Signed), (⟨0, 0, 0, 0, dz⟩ : Claim)⟩ : Entry)⟩ : Item) ++ ([slv 4 0 0 0] ++ (Zj (⟨(⟨0, 0, 0, dz, 0⟩ : Head), 0, dz⟩ : Signed))))), Iv 130]) rfl (by kernel_rfl) rfl rfl (by decide) (by simp [Za0, rwR, dsB, Zt]) ⟨(Ze7 (by kernel_rfl) (Zan ⟨⟨rfl, rfl⟩, trivial⟩ (Zan (Za6 (by kernel_rfl)) (Zan ⟨⟨rfl, rfl, rfl, by first | omega | exact Nat.le_refl _ | exact Nat.zero_le _ | (dsimp only; omega), by first | omega | exact Nat.le_refl _ | exact Nat.zero_le _ | (dsimp only; omega)⟩, trivial⟩ (Za6 (by kernel_rfl)))))), rfl, trivial⟩
abbrev Y33 (x : PStep) (c : Nat) : Blk := mxB 181 ([Iv x.index] ++ (Zs x.item ++ ([slv 0 0 x.proof.length c] ++ (Zj x.head))))
theorem Ztn (x : PStep) (c c' : Nat) (hb : x.proof.length ≤ 1000) (hc : x.proof.length ≤ c) (hc' : x.proof.length ≤ c') : Z6 Tryz.prog G 9 [mxV ([Iv x.index] ++ (Zs x.item ++ ([slv 0 0 x.proof.length c] ++ (Zj x.head)))), mxV ([Iv x.index] ++ (Zs x.item ++ ([slv 1 0 x.proof.length c'] ++ (Zj x.head))))] [dsR x.proof, dsR x.proof] (.bool true) [dsR x.proof, dsR x.proof] := by
  refine Za8 (fn := Tryz.f9) (nt := 31) rfl rfl rfl rfl ?_
  refine Zaa 2 (H' := [dsR x.proof, dsR x.proof, hole, hole]) rfl ?_
  refine Zf (Zg (Zbq (v := mxV ([Iv x.index] ++ (Zs x.item ++ ([slv 0 0 x.proof.length c] ++ (Zj x.head))))) (b := mxB 181 ([Iv x.index] ++ (Zs x.item ++ ([slv 0 0 x.proof.length c] ++ (Zj x.head))))) (nid := 2) (H' := [dsR x.proof, dsR x.proof, Y33 x c, hole]) (Zbq (v := mxV ([Iv x.index] ++ (Zs x.item ++ ([slv 1 0 x.proof.length c'] ++ (Zj x.head))))) (b := mxB 181 ([Iv x.index] ++ (Zs x.item ++ ([slv 1 0 x.proof.length c'] ++ (Zj x.head))))) (nid := 3) (H' := [dsR x.proof, dsR x.proof, Y33 x c, mxB 181 ([Iv x.index] ++ (Zs x.item ++ ([slv 1 0 x.proof.length c'] ++ (Zj x.head))))]) (Zb (.bool false) (Za (Zc (Zf (Zg (Zh (b := 2) (o := 0) (n := 0) (o' := 0) (Zp (p := pt 2 0) (v := Iv x.index) (Zh (b := 3) (o := 0) (n := 0) (o' := 0) (Zp (p := pt 3 0) (v := Iv x.index) ?_))))))))))))
  refine Zl (vx := Iv x.index) (vy := Iv x.index) rfl rfl (.bool true) rfl rfl (Zdn (by omega)) ?_
  refine Zd (.bool true) (Zh (b := 2) (o := 0) (n := 1) (o' := 1) (Zp (p := pt 2 1) (v := Za9 x.item) (Zh (b := 3) (o := 0) (n := 1) (o' := 1) (Zp (p := pt 3 1) (v := Za9 x.item) ?_))))
  refine Zl (vx := Za9 x.item) (vy := Za9 x.item) rfl rfl (.bool true) rfl rfl (Eq.trans (Zvd x.item x.item) (by rw [(Zk7 _)] <;> rfl)) ?_
  refine Zi (.bool true) (Zd (.bool true) (Zh (b := 2) (o := 0) (n := 112) (o' := 112) (Zp (p := pt 2 112) (v := Zy x.head) (Zh (b := 3) (o := 0) (n := 112) (o' := 112) (Zp (p := pt 3 112) (v := Zy x.head) ?_)))))
  refine Zl (vx := Zy x.head) (vy := Zy x.head) rfl rfl (.bool true) rfl rfl (Eq.trans (Zg2 x.head x.head) (by rw [(Zhe _)] <;> rfl)) ?_
  refine Zi (.bool true) (Zd (.bool true) (Zh (b := 2) (o := 0) (n := 111) (o' := 111) (Zp (p := pt 2 111) (v := slv 0 0 x.proof.length c) (Zh (b := 3) (o := 0) (n := 111) (o' := 111) (Zp (p := pt 3 111) (v := slv 1 0 x.proof.length c') ?_)))))
  refine Z2 (e := [some (0, 0), some (1, 0)]) (nid := 0) (Zyl (G := G) x.proof x.proof.length c c' rfl (by omega)) (vals := [slv 0 0 x.proof.length c, slv 1 0 x.proof.length c']) (v := .bool true) (H' := [dsR x.proof, dsR x.proof, Y33 x c, mxB 181 ([Iv x.index] ++ (Zs x.item ++ ([slv 1 0 x.proof.length c'] ++ (Zj x.head))))]) rfl rfl rfl rfl rfl rfl rfl ⟨⟨⟨rfl, rfl, rfl, by first | omega | exact Nat.le_refl _, by first | omega | exact Nat.le_refl _⟩, ⟨rfl, rfl, rfl, by first | omega | exact Nat.le_refl _, by first | omega | exact Nat.le_refl _⟩, trivial⟩, ⟨(Zhg rfl), (Zhg rfl), trivial⟩, rfl, rfl, rfl⟩ rfl (by kernel_rfl) ?_
  refine Zi (.bool true) (Zb (.bool true) (Za (Zc (Zq (Zr ?_)))))
  exact Zk (v := .bool true) rfl rfl rfl (by kernel_rfl) rfl
end Go.Flat
