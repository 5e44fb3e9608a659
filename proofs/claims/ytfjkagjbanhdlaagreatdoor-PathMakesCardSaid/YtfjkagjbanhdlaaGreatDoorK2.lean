/- Walks. -/
import Derived.Test.YtfjkagjbanhdlaaGreatDoorP2
import Derived.Test.YtfjkagjbanhdlaaGreatDoorFlatH
import Derived.Test.YtfjkagjbanhdlaaGreatDoorLast
import Derived.Test.YtfjkagjbanhdlaaGreatDoorFlatG
import Derived.Test.YtfjkagjbanhdlaaGreatDoorRef
import Derived.Test.YtfjkagjbanhdlaaGreatDoorFlatE
set_option linter.unusedVariables false
set_option linter.unusedSimpArgs false
set_option maxRecDepth 20000
namespace Go.Flat
open Go.Proofs
variable {G : Glob}
def cDg : Cod D := ⟨fun d => Zag w8 32 d, 32, fun _ => rfl, by decide⟩
def acL (kk : Nat → BitVec 32) (l : List Item) : Nat → List D
  | 0 => []
  | k + 1 => acL kk l k ++ [(Zat kk (l.getD k default)).1]
theorem Zd2 (kk : Nat → BitVec 32) (l : List Item) : ∀ k, (acL kk l k).length = k
 | 0 => rfl
 | k + 1 => by rw [acL, List.length_append, Zd2 kk l k]; rfl
theorem Z09 (l : List Item) (m c : Nat) (hm : m ≤ l.length) (hc : m ≤ c) (hb : m ≤ 1048576) : Z6 Tryz.prog G 56 [slv 0 0 m c] [rwR Zt l] (.func (.func 87) #[] #[pt 1 0]) [rwR Zt l, rfB (slv 0 0 m c)] := by
 refine Za8 (fn := Tryz.f56) (nt := 4) rfl rfl rfl rfl ?_
 refine Zaa 1 (H' := [rwR Zt l, hole]) rfl ?_
 refine Zf (Zg (Zbq (v := slv 0 0 m c) (b := rfB (slv 0 0 m c)) (nid := 1) (H' := [rwR Zt l, rfB (slv 0 0 m c)]) (Zb .nilFunc (Za (Zc (Zf (Zg ?_)))))))
 refine Zop (vs := []) (ws := [pt 1 0]) rfl rfl rfl rfl rfl ?_
 refine Zb (.func (.func 87) #[] #[pt 1 0]) (Za (Zc (Zq (Zr ?_))))
 exact Zav [0, 1] (v := .func (.func 87) #[] #[pt 1 0]) rfl (by kernel_rfl) rfl rfl (by decide) (by simp [Za0, rwR, rfB, Zmq, Zgt, Zt]) ⟨by simp [Zhy, Zel, Zkr, idE], by kernel_rfl⟩
theorem Zvo (kk : Nat → BitVec 32) (hG : G 3 = some (Zag w32 64 kk)) (l : List Item) (m c : Nat) (hm : m ≤ l.length) (hc : m ≤ c) (hb : m ≤ 1048576) : Z5c Tryz.prog G 87 [pt 1 0] m (fun k => [dgV ((Zat kk (l.getD k default)).1)]) [rwR Zt l, rfB (slv 0 0 m c), rfB (slv 3 0 0 0), dsB (acL kk l 0)] (fun k => [rwR Zt l, rfB (slv 0 0 m c), rfB (slv 3 0 k k), dsB (acL kk l k), bxB 110 (Zs (l.getD k default)), dgB ((Zat kk (l.getD k default)).1)]) (fun k => [rwR Zt l, rfB (slv 0 0 m c), rfB (slv 3 0 (k + 1) (k + 1)), dsB (acL kk l (k + 1)), bxB 110 (Zs (l.getD k default)), dgB ((Zat kk (l.getD k default)).1)]) (fun _ => True) [rwR Zt l, rfB (slv 0 0 m c), rfB (slv 3 0 m m), dsB (acL kk l m)] := by
 refine Zxm (fn := Tryz.f87) rfl rfl (nt := 23) rfl rfl rfl ?_
 intro E l' Stop hE hd hY
 refine Zkv ?_
 refine Zqp (by kernel_rfl) ?_
 refine Zad (p := pt 1 0) (v := slv 0 0 m c) rfl rfl rfl rfl ?_
 refine Zcu (p := slv 0 0 m c) (v := Iv (m : Nat)) (Zd (Iv 0) (Za (Zao (Zvf ?_))))
 refine Z5n hE (fun k : Nat => [.func (.yield l') #[] #[], pt 1 0, dead, dead, dead, dead, dead, slv 0 0 m c, Iv (m : Nat), Iv (k : Nat)]) (fun k : Nat => [rwR Zt l, rfB (slv 0 0 m c), rfB (slv 3 0 k k), dsB (acL kk l k)]) (fun k : Nat => k ≤ m) (fun k : Nat => m - k) 0 (Nat.zero_le _) ?_ ?_
 ·refine Z5 (n := 4) rfl ?_ (by kernel_rfl) (by kernel_rfl)
  repeat (first | exact trivial | refine ⟨.inl rfl, ?_⟩ | refine ⟨.inr ⟨rfl, rfl⟩, ?_⟩ | refine ⟨.inr ⟨congrArg (Value.int .i64) (by first | omega | (dsimp only; omega)), rfl⟩, ?_⟩)
 rintro k hk
 refine Z6g hE 2 (H' := [rwR Zt l, rfB (slv 0 0 m c), rfB (slv 3 0 k k), dsB (acL kk l k), hole, hole]) rfl ?_
 have hks : ∀ j, j < k → True := fun _ _ => trivial
 refine Zkv ?_
 refine Zqp (by kernel_rfl) ?_
 by_cases h1 : (k : Nat) < (m : Nat)
 refine Zl (vx := Iv (k : Nat)) (vy := Iv (m : Nat)) rfl rfl (.bool true) rfl rfl (Zcc (by omega)) ?_
 refine Za (Zao (Zkv (Z62 rfl (Zz1 (Zao (Zkv (Zvf (Zkv ?_))))))))
 refine Zqp (by kernel_rfl) ?_
 refine Zbe (b := 0) (o := 0) (j := k * 110) (m := m) (c := c) (sz := 110) (i := (k : Nat)) (k := .i64) rfl rfl rfl rfl rfl (by omega) (by omega) (by omega) ?_
 refine Zad (p := pt 0 (k * 110)) (v := Za9 (l.getD k default)) rfl rfl rfl (Zhf (n := 0) (m := 110) Zt rfl rfl rfl rfl (by omega) (by omega)) ?_
 refine Zam (b := bxB 110 (Zs (⟨0, (⟨0, 0, 0, ⟨#[]⟩, (⟨(⟨0, 0, 0, dz, 0⟩ : Head), 0, dz⟩ : Signed), (⟨0, 0, 0, 0, dz⟩ : Claim)⟩ : Entry)⟩ : Item))) (nid := 4) (H' := [rwR Zt l, rfB (slv 0 0 m c), rfB (slv 3 0 k k), dsB (acL kk l k), bxB 110 (Zs (⟨0, (⟨0, 0, 0, ⟨#[]⟩, (⟨(⟨0, 0, 0, dz, 0⟩ : Head), 0, dz⟩ : Signed), (⟨0, 0, 0, 0, dz⟩ : Claim)⟩ : Entry)⟩ : Item)), hole]) (Z7 (p := pt 4 0) (v := Za9 (l.getD k default)) (b := 4) (blk := bxB 110 (Zs (l.getD k default))) (H' := [rwR Zt l, rfB (slv 0 0 m c), rfB (slv 3 0 k k), dsB (acL kk l k), bxB 110 (Zs (l.getD k default)), hole]) (Za (Zao (Zkv ?_))))
 refine Zqp (by kernel_rfl) ?_
 refine Zp (p := pt 4 0) (v := Za9 (l.getD k default)) ?_
 refine Zo (Z0m (G := G) kk hG (l.getD k default)) (vals := [Za9 (l.getD k default)]) (res' := .tuple #[dgV ((Zat kk (l.getD k default)).1), Iv ((Zat kk (l.getD k default)).2)]) rfl rfl rfl rfl rfl (by kernel_rfl) ?_
 refine Zd (.tuple #[dgV ((Zat kk (l.getD k default)).1), Iv ((Zat kk (l.getD k default)).2)]) (Zw (vs := #[dgV ((Zat kk (l.getD k default)).1), Iv ((Zat kk (l.getD k default)).2)]) (v := dgV ((Zat kk (l.getD k default)).1)) (Zw (vs := #[dgV ((Zat kk (l.getD k default)).1), Iv ((Zat kk (l.getD k default)).2)]) (v := Iv ((Zat kk (l.getD k default)).2)) (Zam (b := dgB dz) (nid := 5) (H' := [rwR Zt l, rfB (slv 0 0 m c), rfB (slv 3 0 k k), dsB (acL kk l k), bxB 110 (Zs (l.getD k default)), dgB dz]) (Z7 (p := pt 5 0) (v := dgV ((Zat kk (l.getD k default)).1)) (b := 5) (blk := dgB ((Zat kk (l.getD k default)).1)) (H' := [rwR Zt l, rfB (slv 0 0 m c), rfB (slv 3 0 k k), dsB (acL kk l k), bxB 110 (Zs (l.getD k default)), dgB ((Zat kk (l.getD k default)).1)]) (Zb (Iv ((Zat kk (l.getD k default)).2)) (Za (Zao (Zkv ?_))))))))
 refine Z3r (fun w' h => ⟨w', h, rfl⟩) 2 rfl rfl rfl (by kernel_rfl) ?_
 refine Zd (.func (.yield l') #[] #[]) (Zp (p := pt 5 0) (v := dgV ((Zat kk (l.getD k default)).1)) ?_)
 refine Zkz ?_
 show Zz8 _ _ _ _ _ _ _ _ _ _ _ _ _
 unfold Zz8
 refine ⟨l', [dgV ((Zat kk (l.getD k default)).1)], [rwR Zt l, rfB (slv 0 0 m c), rfB (slv 3 0 (k + 1) (k + 1)), dsB (acL kk l (k + 1)), bxB 110 (Zs (l.getD k default)), dgB ((Zat kk (l.getD k default)).1)], True, rfl, rfl, by decide, hY k (by omega) hks, fun hok => ?_, ?_⟩
 refine Zg5 (vx := .bool true) rfl rfl (.bool false) rfl Zd1 ?_
 refine Za (Zao (Zws rfl (Zz1 (Z4 (Zao ?_)))))
 refine Zqp (by kernel_rfl) ?_
 refine Zl (vx := Iv (k : Nat)) (vy := Iv 1) rfl rfl (Iv ((k : Nat) + 1)) rfl rfl (Za3 (by omega) (by omega) (by omega)) ?_
 refine Zd (Iv ((k : Nat) + 1)) (Za ?_)
 refine Zao ⟨(k + 1), (show k + 1 ≤ m by omega), by show m - (k + 1) < m - k; omega, ?_⟩
 refine Z5 (n := 4) rfl ?_ (by kernel_rfl) (by kernel_rfl)
 repeat (first | exact trivial | refine ⟨.inl rfl, ?_⟩ | refine ⟨.inr ⟨rfl, rfl⟩, ?_⟩ | refine ⟨.inr ⟨congrArg (Value.int .i64) (by first | omega | (dsimp only; omega)), rfl⟩, ?_⟩)
 refine Zg5 (vx := .bool false) rfl rfl (.bool true) rfl Zd1 ?_
 refine Za (Zao (Z6v rfl (Z3o (Za4 (Zd6 (Zd6 (Za4 ?_)))))))
 exact ⟨.inr rfl⟩
 refine Zl (vx := Iv (k : Nat)) (vy := Iv (m : Nat)) rfl rfl (.bool false) rfl rfl (Zb5 (by omega)) ?_
 refine Za (Zao (Zkv (Zws rfl (Z6m (Zau (Zau (Zax rfl ?_)))))))
 obtain rfl : k = m := by omega
 exact ⟨⟨.inl rfl, fun _ _ => trivial, _, Z5 (l := []) (n := 4) rfl trivial (by kernel_rfl) (by kernel_rfl)⟩⟩
theorem Z1m (kk : Nat → BitVec 32) (hG : G 3 = some (Zag w32 64 kk)) (l : List Item) (m c : Nat) (hm : m ≤ l.length) (hc : m ≤ c) (hb : m ≤ 1048576) : Z6 Tryz.prog G 86 [.slice none 0 0, .func (.func 87) #[] #[pt 1 0]] [rwR Zt l, rfB (slv 0 0 m c)] (slv 2 0 m m) [rwR Zt l, rfB (slv 0 0 m c), dsB (acL kk l m)] := by
  refine Z6.introM (fn := Tryz.f86) rfl rfl (nt := 13) rfl rfl ?_
  refine Zyp (Z5l ?_)
  refine Zzz 2 (H' := [rwR Zt l, rfB (slv 0 0 m c), hole, hole]) rfl ?_
  refine Zqj (by kernel_rfl) ?_
  refine Zbq (v := .slice none 0 0) (b := rfB (.slice none 0 0)) (nid := 2) (H' := [rwR Zt l, rfB (slv 0 0 m c), rfB (.slice none 0 0), hole]) (Zb (.slice none 0 0) (Za (Zao (Zyp (Zyp (Z5l ?_))))))
  refine Zz6 (Zb6.nilCell (k := 2) (j := 0) (b := 3) true 32 rfl (by decide) rfl (by show 0 < 1; decide) rfl rfl) ?_
  refine Zqj (by kernel_rfl) ?_
  refine Zd (.func (.func 87) #[] #[pt 1 0]) (Za (Zao ?_))
  have hiter := Zvo (G := G) kk hG l m c hm hc hb
  refine Z2o (lbs := #[pt 1 0]) (iter := hiter) rfl rfl rfl (by intro _ _; rfl) (by kernel_rfl) ?_ ?_
  · intro lp k hk hks
    refine Zzz 2 (H' := [rwR Zt l, rfB (slv 0 0 m c), rfB (slv 3 0 k k), dsB (acL kk l k), bxB 110 (Zs (l.getD k default)), dgB ((Zat kk (l.getD k default)).1), hole, hole]) rfl ?_
    refine Zqj (by kernel_rfl) ?_
    refine Zam (b := dgB dz) (nid := 6) (H' := [rwR Zt l, rfB (slv 0 0 m c), rfB (slv 3 0 k k), dsB (acL kk l k), bxB 110 (Zs (l.getD k default)), dgB ((Zat kk (l.getD k default)).1), dgB dz, hole]) (Z7 (p := pt 6 0) (v := dgV ((Zat kk (l.getD k default)).1)) (b := 6) (blk := dgB ((Zat kk (l.getD k default)).1)) (H' := [rwR Zt l, rfB (slv 0 0 m c), rfB (slv 3 0 k k), dsB (acL kk l k), bxB 110 (Zs (l.getD k default)), dgB ((Zat kk (l.getD k default)).1), dgB ((Zat kk (l.getD k default)).1), hole]) (Za (Zao (Z31 ?_))))
    refine Zqj (by kernel_rfl) ?_
    refine Zad (p := pt 2 0) (v := slv 3 0 k k) rfl rfl rfl rfl ?_
    refine Zp (p := pt 6 0) (v := dgV ((Zat kk (l.getD k default)).1)) ?_
    refine Zdb (vs := [(0, dgV ((Zat kk (l.getD k default)).1))]) (v := slv 7 0 1 1) (blk := dsB [(Zat kk (l.getD k default)).1]) (nid := 7) (H' := [rwR Zt l, rfB (slv 0 0 m c), rfB (slv 3 0 k k), dsB (acL kk l k), bxB 110 (Zs (l.getD k default)), dgB ((Zat kk (l.getD k default)).1), dgB ((Zat kk (l.getD k default)).1), dsB [(Zat kk (l.getD k default)).1]]) rfl rfl rfl (by kernel_rfl) (by kernel_rfl) ?_
    have hl1 : ((acL kk l k) ++ [(Zat kk (l.getD k default)).1]).length = k + 1 := by have := (Zd2 kk l k); have := (rfl : _ = 1); first | (rw [List.length_append]; omega) | (rw [List.length_append, List.length_take]; omega) | (simp; omega) | simp
    refine Zbp (p := slv 3 0 k k) (q := slv 7 0 1 1) (v := slv 3 0 (k + 1) (k + 1)) (b := 3) (blk := dsB ((acL kk l k) ++ [(Zat kk (l.getD k default)).1])) (H' := [rwR Zt l, rfB (slv 0 0 m c), rfB (dead), dsB ((acL kk l k) ++ [(Zat kk (l.getD k default)).1]), bxB 110 (Zs (l.getD k default)), dgB ((Zat kk (l.getD k default)).1), dgB ((Zat kk (l.getD k default)).1), dsB [(Zat kk (l.getD k default)).1]]) rfl rfl rfl (.inl ⟨_, rfl⟩) rfl rfl (Zhd cDg (by_ := 32) (k := 1) (n' := k + 1) (ms := [(Zat kk (l.getD k default)).1]) (fun _ => rfl) rfl rfl (by kernel_rfl) rfl rfl (by have := (Zd2 kk l k); omega) (by omega) (by decide) (by omega)) rfl (by kernel_rfl) ?_
    refine Z7 (p := pt 2 0) (v := slv 3 0 (k + 1) (k + 1)) (b := 2) (blk := rfB (slv 3 0 (k + 1) (k + 1))) (H' := [rwR Zt l, rfB (slv 0 0 m c), rfB (slv 3 0 (k + 1) (k + 1)), dsB ((acL kk l k) ++ [(Zat kk (l.getD k default)).1]), bxB 110 (Zs (l.getD k default)), dgB ((Zat kk (l.getD k default)).1), dgB ((Zat kk (l.getD k default)).1), dsB [(Zat kk (l.getD k default)).1]]) (Za (Z4 ?_))
    exact ⟨⟨trivial, _, Z5 (l := []) (n := 6) rfl trivial (by kernel_rfl) (by kernel_rfl)⟩⟩
  intro hall
  show CW none _ _ _ _ _ _ _
  refine Z7q ?_
  refine Zqj (by kernel_rfl) ?_
  refine Zad (p := pt 2 0) (v := slv 3 0 m m) rfl rfl rfl rfl ?_
  refine Zb (slv 3 0 m m) (Za (Zao (Z3o (Zd6 (Zr ?_)))))
  exact Zav [0, 1, 3] (v := slv 3 0 m m) rfl (by kernel_rfl) rfl rfl (by decide) (by simp [Za0, rwR, rfB, dsB, Zmq, Zgt, Zt]) ⟨rfl, rfl, rfl, by first | omega | exact Nat.le_refl _ | exact Nat.zero_le _ | (dsimp only; omega), by first | omega | exact Nat.le_refl _ | exact Nat.zero_le _ | (dsimp only; omega)⟩
theorem Zza (kk : Nat → BitVec 32) (hG : G 3 = some (Zag w32 64 kk)) (l : List Item) (m c : Nat) (hm : m ≤ l.length) (hc : m ≤ c) (hb : m ≤ 1048576) : Z6 Tryz.prog G 55 [.func (.func 87) #[] #[pt 1 0]] [rwR Zt l, rfB (slv 0 0 m c)] (slv 2 0 m m) [rwR Zt l, rfB (slv 0 0 m c), dsB (acL kk l m)] := by
  refine Za8 (fn := Tryz.f55) (nt := 5) rfl rfl rfl rfl ?_
  refine Zaa 1 (H' := [rwR Zt l, rfB (slv 0 0 m c), hole]) rfl ?_
  refine Zf (Zg (Zb (.slice none 0 0) (Za (Zc (Zf (Zg (Zd (.func (.func 87) #[] #[pt 1 0]) ?_)))))))
  refine Z2 (e := [some (0, 0), some (1, 0)]) (nid := 2) (Z1m (G := G) kk hG l m c hm hc hb) (vals := [.slice none 0 0, .func (.func 87) #[] #[pt 1 0]]) (v := slv 2 0 m m) (H' := [rwR Zt l, rfB (slv 0 0 m c), dsB (acL kk l m)]) rfl rfl rfl rfl rfl rfl rfl ⟨⟨rfl, ⟨by simp [Zhy, Zel, Zkr, idE], by kernel_rfl⟩, trivial⟩, ⟨(Zds rfl), (Zbd rfl rfl rfl rfl), trivial⟩, rfl, rfl, rfl⟩ (by kernel_rfl) (by kernel_rfl) ?_
  refine Zb (slv 2 0 m m) (Za (Zc (Zq (Zr ?_))))
  exact Zav [0, 1, 2] (v := slv 2 0 m m) rfl (by kernel_rfl) rfl rfl (by decide) (by simp [Za0, rwR, rfB, dsB, Zmq, Zgt, Zt]) ⟨rfl, rfl, rfl, by first | omega | exact Nat.le_refl _ | exact Nat.zero_le _ | (dsimp only; omega), by first | omega | exact Nat.le_refl _ | exact Nat.zero_le _ | (dsimp only; omega)⟩
end Go.Flat
namespace Go.Flat
open Go.Proofs
variable {G : Glob}
def Zap (kk : Nat → BitVec 32) (l : List Item) (k : Int) : List D × Int := if Zec l then (if 0 ≤ k ∧ k ≤ l.length then (acL kk l k.toNat, 0) else ([], 21)) else ([], 100)
theorem Zqg (kk : Nat → BitVec 32) (l : List Item) (k : Int) : (Zap kk l k).1.length ≤ 2000 := by
 unfold Zap
 split
 ·rename_i h
  split
  ·rename_i h2
   have := h.1
   show (acL kk l k.toNat).length ≤ 2000
   rw [Zd2]; omega
  ·exact Nat.zero_le _
 ·exact Nat.zero_le _
def Zab (kk : Nat → BitVec 32) (l : List Item) (k : Int) : D × Int := if (Zap kk l k).2 = 0 then (Zby kk (Zap kk l k).1, 0) else (dz, (Zap kk l k).2)
def Zbf (kk : Nat → BitVec 32) (l : List Item) (k region epoch tick : Int) : Head × Int := if (Zab kk l k).2 = 0 then (if Zbn ⟨region, epoch, k, (Zab kk l k).1, tick⟩ = 0 then (⟨region, epoch, k, (Zab kk l k).1, tick⟩, 0) else (⟨0, 0, 0, dz, 0⟩, 100)) else (⟨0, 0, 0, dz, 0⟩, (Zab kk l k).2)
def Zaf (kk : Nat → BitVec 32) (l : List Item) (k i : Int) : List D × Int := if (Zap kk l k).2 = 0 then (if 0 ≤ i ∧ i < (Zap kk l k).1.length then (Zcp kk (Zap kk l k).1 i.toNat, 0) else ([], 20)) else ([], (Zap kk l k).2)
def conH (kk : Nat → BitVec 32) (l : List Item) (i k : Int) : List D × Int := if (Zap kk l k).2 = 0 then (if 0 ≤ i ∧ i ≤ (Zap kk l k).1.length then (if i = 0 then ([], 0) else (consP kk (Zap kk l k).1 i.toNat, 0)) else ([], 21)) else ([], (Zap kk l k).2)
theorem Zs0 (ds : List D) (c n : Nat) (i : Int) (hn : ds.length = n) (h : i < 0 ∨ (n : Int) ≤ i) : Z6 Tryz.prog G 37 [slv 0 0 n c, Iv i] [dsR ds] (.tuple #[Zuw, Iv 20]) [dsR ds] := by subst hn; exact Zr6 ds c i h
theorem Zwv (kk : Nat → BitVec 32) (hG : G 3 = some (Zag w32 64 kk)) (l : List Item) (n c : Nat) (hn : l.length = n) (hc : n ≤ c) (hb : n ≤ 1048576) (k : Int) : Z6 Tryz.prog G 30 [slv 0 0 n c, Iv k] [rwR Zt l] (.tuple #[slv 1 0 (Zap kk l k).1.length (Zap kk l k).1.length, Iv (Zap kk l k).2]) [rwR Zt l, dsB (Zap kk l k).1] := by
  refine Za8 (fn := Tryz.f30) (nt := 21) rfl rfl rfl rfl ?_
  refine Zaa 2 (H' := [rwR Zt l, hole, hole]) rfl ?_
  refine Zf (Zg (Zb (.slice none 0 0) (Zb (Iv 0) (Za (Zc (Zf (Z1 (Zf (Zg (Zd (slv 0 0 n c) ?_))))))))))
  refine Z2 (e := [some (0, 0)]) (nid := 0) (Z2b (G := G) l n c hn (by omega) (by omega)) (vals := [slv 0 0 n c]) (v := Iv (Zpw l)) (H' := [rwR Zt l, hole, hole]) rfl rfl rfl rfl rfl rfl rfl ⟨⟨⟨rfl, rfl, rfl, by first | omega | exact Nat.le_refl _, by first | omega | exact Nat.le_refl _⟩, trivial⟩, ⟨(Zds rfl), trivial⟩, rfl, rfl, rfl⟩ rfl (by kernel_rfl) ?_
  by_cases h1 : (Zpw l) ≠ 0
  refine Zl (vx := Iv (Zpw l)) (vy := Iv 0) rfl rfl (.bool true) rfl rfl (Zea (by omega)) ?_
  refine Zb (.bool true) (Za (Zc (Zx rfl (Zf (Zg (Zb (.slice none 0 0) (Zb (Iv 100) (Za (Zc ?_)))))))))
  refine Zbo (Zb6.nilTmp (i := 4) (b := 1) true 32 rfl (by decide) rfl) ?_
  refine Zq (Za4 (Zz (Zr ?_)))
  rw [show Zap kk l k = ([], 100) from if_neg (Z4m (by omega))]
  exact Zav [0, 1] (v := .tuple #[slv 1 0 0 0, Iv 100]) rfl (by kernel_rfl) rfl rfl (by decide) (by simp [Za0, rwR, dsB, Zt]) ⟨⟨rfl, rfl, rfl, by first | omega | exact Nat.le_refl _ | exact Nat.zero_le _ | (dsimp only; omega), by first | omega | exact Nat.le_refl _ | exact Nat.zero_le _ | (dsimp only; omega)⟩, rfl, trivial⟩
  refine Zl (vx := Iv (Zpw l)) (vy := Iv 0) rfl rfl (.bool false) rfl rfl (Zdz (by omega)) ?_
  refine Zb (.bool false) (Za (Zc (Zu rfl (Zf (Zg (Zd (Iv k) (Zd (slv 0 0 n c) (Zcu (p := slv 0 0 n c) (v := Iv (n : Nat)) ?_))))))))
  by_cases h2 : 0 ≤ k
  by_cases h3 : k ≤ (n : Nat)
  refine Zo ((Zg7 (G := G) k 0 (n : Nat)).res (congrArg Value.bool (Zbc (by omega) (by omega)))) (vals := [Iv k, Iv 0, Iv (n : Nat)]) (res' := .bool true) rfl rfl rfl rfl rfl rfl ?_
  refine Zg5 (vx := .bool true) rfl rfl (.bool false) rfl Zd1 ?_
  refine Zb (.bool false) (Za (Zc (Zu rfl (Z0 (Z4 (Zc (Zf ?_)))))))
  obtain ⟨q, rfl⟩ : ∃ x0 : Nat, k = (x0 : Int) := ⟨k.toNat, by omega⟩
  refine Zg (Zd (slv 0 0 n c) (Zd (Iv (q : Nat)) ?_))
  refine Zc7 (p := slv 0 0 n c) (vl := none) (vh := some (Iv (q : Nat))) (v := slv 0 0 q c) rfl rfl rfl rfl rfl (Zfv (h := q) rfl rfl (by omega) (by omega) rfl) ?_
  refine Z2 (e := [some (0, 0)]) (nid := 1) (Z09 (G := G) l q c (by have := hn; omega) (by omega) (by omega)) (vals := [slv 0 0 q c]) (v := .func (.func 87) #[] #[pt 1 0]) (H' := [rwR Zt l, rfB (slv 0 0 q c), hole]) rfl rfl rfl rfl rfl rfl rfl ⟨⟨⟨rfl, rfl, rfl, by omega, by omega⟩, trivial⟩, ⟨(Zds rfl), trivial⟩, rfl, rfl, rfl⟩ (by kernel_rfl) (by kernel_rfl) ?_
  refine Z2 (e := [some (0, 0), some (1, 0)]) (nid := 2) (Zza (G := G) kk hG l q c (by have := hn; omega) (by omega) (by omega)) (vals := [.func (.func 87) #[] #[pt 1 0]]) (v := slv 2 0 q q) (H' := [rwR Zt l, rfB (slv 0 0 q c), dsB (acL kk l q)]) rfl rfl rfl rfl rfl rfl rfl ⟨⟨⟨by simp [Zhy, Zel, Zkr, idE], by kernel_rfl⟩, trivial⟩, ⟨(Zds rfl), (Zbd rfl rfl rfl rfl), trivial⟩, rfl, rfl, rfl⟩ (by kernel_rfl) (by kernel_rfl) ?_
  refine Zb (slv 2 0 q q) (Zb (Iv 0) (Za (Zc (Zq (Zr ?_)))))
  rw [show Zap kk l ((q : Nat) : Int) = (acL kk l q, 0) from by unfold Zap; rw [if_pos (Zrz (by omega)), if_pos (by omega)]; rfl]
  rw [show (acL kk l q, (0 : Int)).1.length = q from Zd2 kk l q]
  exact Zav [0, 2] (v := .tuple #[slv 2 0 q q, Iv 0]) rfl (by kernel_rfl) rfl rfl (by decide) (by simp [Za0, rwR, dsB, Zt]) ⟨⟨rfl, rfl, rfl, by first | omega | exact Nat.le_refl _ | exact Nat.zero_le _ | (dsimp only; omega), by first | omega | exact Nat.le_refl _ | exact Nat.zero_le _ | (dsimp only; omega)⟩, rfl, trivial⟩
  refine Zo ((Zg7 (G := G) k 0 (n : Nat)).res (congrArg Value.bool (Z8 (by omega)))) (vals := [Iv k, Iv 0, Iv (n : Nat)]) (res' := .bool false) rfl rfl rfl rfl rfl rfl ?_
  refine Zg5 (vx := .bool false) rfl rfl (.bool true) rfl Zd1 ?_
  refine Zb (.bool true) (Za (Zc (Zx rfl (Zf (Zg (Zb (.slice none 0 0) (Zb (Iv 21) (Za (Zc ?_)))))))))
  refine Zbo (Zb6.nilTmp (i := 4) (b := 1) true 32 rfl (by decide) rfl) ?_
  refine Zq (Za4 (Zz (Zr ?_)))
  rw [show Zap kk l k = ([], 21) from by unfold Zap; rw [if_pos (Zrz (by omega)), if_neg (by omega)]]
  exact Zav [0, 1] (v := .tuple #[slv 1 0 0 0, Iv 21]) rfl (by kernel_rfl) rfl rfl (by decide) (by simp [Za0, rwR, dsB, Zt]) ⟨⟨rfl, rfl, rfl, by first | omega | exact Nat.le_refl _ | exact Nat.zero_le _ | (dsimp only; omega), by first | omega | exact Nat.le_refl _ | exact Nat.zero_le _ | (dsimp only; omega)⟩, rfl, trivial⟩
  refine Zo ((Zg7 (G := G) k 0 (n : Nat)).res (congrArg Value.bool (Z8 (by omega)))) (vals := [Iv k, Iv 0, Iv (n : Nat)]) (res' := .bool false) rfl rfl rfl rfl rfl rfl ?_
  refine Zg5 (vx := .bool false) rfl rfl (.bool true) rfl Zd1 ?_
  refine Zb (.bool true) (Za (Zc (Zx rfl (Zf (Zg (Zb (.slice none 0 0) (Zb (Iv 21) (Za (Zc ?_)))))))))
  refine Zbo (Zb6.nilTmp (i := 4) (b := 1) true 32 rfl (by decide) rfl) ?_
  refine Zq (Za4 (Zz (Zr ?_)))
  rw [show Zap kk l k = ([], 21) from by unfold Zap; rw [if_pos (Zrz (by omega)), if_neg (by omega)]]
  exact Zav [0, 1] (v := .tuple #[slv 1 0 0 0, Iv 21]) rfl (by kernel_rfl) rfl rfl (by decide) (by simp [Za0, rwR, dsB, Zt]) ⟨⟨rfl, rfl, rfl, by first | omega | exact Nat.le_refl _ | exact Nat.zero_le _ | (dsimp only; omega), by first | omega | exact Nat.le_refl _ | exact Nat.zero_le _ | (dsimp only; omega)⟩, rfl, trivial⟩
theorem Zv7 (kk : Nat → BitVec 32) (hG : G 3 = some (Zag w32 64 kk)) (hG1 : G 1 = some (Zag u8N 64 dbF)) (l : List Item) (n c : Nat) (hn : l.length = n) (hc : n ≤ c) (hb : n ≤ 1048576) (k : Int) : Z6 Tryz.prog G 18 [slv 0 0 n c, Iv k] [rwR Zt l] (.tuple #[dgV (Zab kk l k).1, Iv (Zab kk l k).2]) [rwR Zt l] := by
  refine Za8 (fn := Tryz.f18) (nt := 20) rfl rfl rfl rfl ?_
  refine Zaa 2 (H' := [rwR Zt l, hole, hole]) rfl ?_
  refine Zf (Zg (Zam (b := dgB dz) (nid := 1) (H' := [rwR Zt l, dgB dz, hole]) (Zb (Iv 0) (Za (Zc (Zf (Zg (Zd (slv 0 0 n c) (Zd (Iv k) ?_)))))))))
  have hfl3 := Zqg kk l k
  refine Z2 (e := [some (0, 0)]) (nid := 2) (Zwv (G := G) kk hG l n c hn (by omega) (by omega) k) (vals := [slv 0 0 n c, Iv k]) (v := .tuple #[slv 2 0 ((Zap kk l k).1.length) ((Zap kk l k).1.length), Iv ((Zap kk l k).2)]) (H' := [rwR Zt l, dgB dz, dsB ((Zap kk l k).1)]) rfl rfl rfl rfl rfl rfl rfl ⟨⟨⟨rfl, rfl, rfl, by first | omega | exact Nat.le_refl _, by first | omega | exact Nat.le_refl _⟩, rfl, trivial⟩, ⟨(Zds rfl), trivial⟩, rfl, rfl, rfl⟩ (by kernel_rfl) (by kernel_rfl) ?_
  refine Zd (.tuple #[slv 2 0 ((Zap kk l k).1.length) ((Zap kk l k).1.length), Iv ((Zap kk l k).2)]) (Zw (vs := #[slv 2 0 ((Zap kk l k).1.length) ((Zap kk l k).1.length), Iv ((Zap kk l k).2)]) (v := slv 2 0 ((Zap kk l k).1.length) ((Zap kk l k).1.length)) (Zw (vs := #[slv 2 0 ((Zap kk l k).1.length) ((Zap kk l k).1.length), Iv ((Zap kk l k).2)]) (v := Iv ((Zap kk l k).2)) (Zb (slv 2 0 ((Zap kk l k).1.length) ((Zap kk l k).1.length)) (Zb (Iv ((Zap kk l k).2)) (Za (Zc (Zf (Zf (Zg (Zd (Iv ((Zap kk l k).2)) ?_))))))))))
  by_cases h1 : ((Zap kk l k).2) ≠ 0
  refine Zl (vx := Iv ((Zap kk l k).2)) (vy := Iv 0) rfl rfl (.bool true) rfl rfl (Zea (by omega)) ?_
  refine Za (Zc (Zx rfl (Zf (Zg ?_))))
  refine Za5 (vs := []) (v := dgV dz) rfl rfl rfl (by kernel_rfl) ?_
  refine Zd (Iv ((Zap kk l k).2)) (Z7 (p := pt 1 0) (v := dgV dz) (b := 1) (blk := dgB dz) (H' := [rwR Zt l, dgB dz, dsB ((Zap kk l k).1)]) (Zb (Iv ((Zap kk l k).2)) (Za (Zc (Zq (Zz (Zr ?_)))))))
  rw [show Zab kk l k = (dz, (Zap kk l k).2) from if_neg (by omega)]
  exact Zk (v := .tuple #[dgV dz, Iv ((Zap kk l k).2)]) (by kernel_rfl) rfl rfl (by simp [Za0, rwR, Zt]) ⟨(Zbm (Zbu fun _ => rfl) rfl), rfl, trivial⟩
  refine Zl (vx := Iv ((Zap kk l k).2)) (vy := Iv 0) rfl rfl (.bool false) rfl rfl (Zdz (by omega)) ?_
  refine Za (Zc (Zu rfl (Z0 (Zc (Zf (Zg (Zd (slv 2 0 ((Zap kk l k).1.length) ((Zap kk l k).1.length)) ?_)))))))
  refine Z2 (e := [some (2, 0)]) (nid := 0) (Z5k (G := G) kk hG hG1 ((Zap kk l k).1) (c := ((Zap kk l k).1.length)) (n := ((Zap kk l k).1.length)) (rfl : _ = _) (by omega) (by omega) rfl) (vals := [slv 2 0 ((Zap kk l k).1.length) ((Zap kk l k).1.length)]) (v := dgV (Zby kk ((Zap kk l k).1))) (H' := [rwR Zt l, dgB dz, dsB ((Zap kk l k).1)]) rfl rfl rfl rfl rfl rfl rfl ⟨⟨⟨rfl, rfl, rfl, by first | omega | exact Nat.le_refl _, by first | omega | exact Nat.le_refl _⟩, trivial⟩, ⟨(Zgd rfl), trivial⟩, rfl, rfl, rfl⟩ (by kernel_rfl) (by kernel_rfl) ?_
  refine Z7 (p := pt 1 0) (v := dgV (Zby kk ((Zap kk l k).1))) (b := 1) (blk := dgB (Zby kk ((Zap kk l k).1))) (H' := [rwR Zt l, dgB (Zby kk ((Zap kk l k).1)), dsB ((Zap kk l k).1)]) (Zb (Iv 0) (Za (Zc (Zq (Zr ?_)))))
  rw [show Zab kk l k = (Zby kk (Zap kk l k).1, 0) from if_pos (by omega)]
  exact Zk (v := .tuple #[dgV (Zby kk ((Zap kk l k).1)), Iv 0]) (by kernel_rfl) rfl rfl (by simp [Za0, rwR, Zt]) ⟨(Zbm (Zbu fun _ => rfl) rfl), rfl, trivial⟩
abbrev Y5  : Blk := bxB 36 (Zcz (⟨0, 0, 0, dz, 0⟩ : Head))
abbrev Y6 (kk : Nat → BitVec 32) (l : List Item) (k : Int) (region : Int) (epoch : Int) (tick : Int) : Blk := bxB 36 (Zcz (⟨region, epoch, k, (Zab kk l k).1, tick⟩ : Head))
theorem Z45 (kk : Nat → BitVec 32) (hG : G 3 = some (Zag w32 64 kk)) (hG1 : G 1 = some (Zag u8N 64 dbF)) (l : List Item) (n c : Nat) (hn : l.length = n) (hc : n ≤ c) (hb : n ≤ 1048576) (k region epoch tick : Int) : Z6 Tryz.prog G 44 [slv 0 0 n c, Iv k, Iv region, Iv epoch, Iv tick] [rwR Zt l] (.tuple #[Zcd (Zbf kk l k region epoch tick).1, Iv (Zbf kk l k region epoch tick).2]) [rwR Zt l] := by
  refine Za8 (fn := Tryz.f44) (nt := 36) rfl rfl rfl rfl ?_
  refine Zaa 3 (H' := [rwR Zt l, hole, hole, hole]) rfl ?_
  refine Zf (Zg (Zam (b := bxB 36 (Zcz (⟨0, 0, 0, dz, 0⟩ : Head))) (nid := 1) (H' := [rwR Zt l, Y5, hole, hole]) (Zb (Iv 0) (Za (Zc (Zf (Zg (Zd (slv 0 0 n c) (Zd (Iv k) ?_)))))))))
  refine Z2 (e := [some (0, 0)]) (nid := 0) (Zv7 (G := G) kk hG hG1 l n c hn (by omega) (by omega) k) (vals := [slv 0 0 n c, Iv k]) (v := .tuple #[dgV ((Zab kk l k).1), Iv ((Zab kk l k).2)]) (H' := [rwR Zt l, Y5, hole, hole]) rfl rfl rfl rfl rfl rfl rfl ⟨⟨⟨rfl, rfl, rfl, by first | omega | exact Nat.le_refl _, by first | omega | exact Nat.le_refl _⟩, rfl, trivial⟩, ⟨(Zds rfl), trivial⟩, rfl, rfl, rfl⟩ (by kernel_rfl) (by kernel_rfl) ?_
  refine Zd (.tuple #[dgV ((Zab kk l k).1), Iv ((Zab kk l k).2)]) (Zw (vs := #[dgV ((Zab kk l k).1), Iv ((Zab kk l k).2)]) (v := dgV ((Zab kk l k).1)) (Zw (vs := #[dgV ((Zab kk l k).1), Iv ((Zab kk l k).2)]) (v := Iv ((Zab kk l k).2)) (Zam (b := dgB dz) (nid := 2) (H' := [rwR Zt l, Y5, dgB dz, hole]) (Z7 (p := pt 2 0) (v := dgV ((Zab kk l k).1)) (b := 2) (blk := dgB ((Zab kk l k).1)) (H' := [rwR Zt l, Y5, dgB ((Zab kk l k).1), hole]) (Zb (Iv ((Zab kk l k).2)) (Za (Zc (Zf (Zf (Zg (Zd (Iv ((Zab kk l k).2)) ?_)))))))))))
  by_cases h1 : ((Zab kk l k).2) ≠ 0
  refine Zl (vx := Iv ((Zab kk l k).2)) (vy := Iv 0) rfl rfl (.bool true) rfl rfl (Zea (by omega)) ?_
  refine Za (Zc (Zx rfl (Zf (Zg ?_))))
  refine Za5 (vs := []) (v := Zcd (⟨0, 0, 0, dz, 0⟩ : Head)) rfl rfl rfl (by kernel_rfl) ?_
  refine Zd (Iv ((Zab kk l k).2)) (Z7 (p := pt 1 0) (v := Zcd (⟨0, 0, 0, dz, 0⟩ : Head)) (b := 1) (blk := bxB 36 (Zcz (⟨0, 0, 0, dz, 0⟩ : Head))) (H' := [rwR Zt l, Y5, dgB ((Zab kk l k).1), hole]) (Zb (Iv ((Zab kk l k).2)) (Za (Zc (Zq (Zz (Zr ?_)))))))
  rw [show Zbf kk l k region epoch tick = (⟨0, 0, 0, dz, 0⟩, (Zab kk l k).2) from by unfold Zbf; rw [if_neg (by omega)]]
  exact Zk (v := .tuple #[Zcd (⟨0, 0, 0, dz, 0⟩ : Head), Iv ((Zab kk l k).2)]) (by kernel_rfl) rfl rfl (by simp [Za0, rwR, Zt]) ⟨(Zin (by kernel_rfl) rfl), rfl, trivial⟩
  refine Zl (vx := Iv ((Zab kk l k).2)) (vy := Iv 0) rfl rfl (.bool false) rfl rfl (Zdz (by omega)) ?_
  refine Za (Zc (Zu rfl (Z0 (Zc (Zf (Zg (Zd (Iv region) (Zd (Iv epoch) (Zd (Iv k) (Zp (p := pt 2 0) (v := dgV ((Zab kk l k).1)) (Zd (Iv tick) ?_)))))))))))
  refine Za5 (vs := [(0, Iv region), (1, Iv epoch), (2, Iv k), (3, dgV ((Zab kk l k).1)), (4, Iv tick)]) (v := Zcd (⟨region, epoch, k, (Zab kk l k).1, tick⟩ : Head)) rfl rfl rfl (by kernel_rfl) ?_
  refine Zam (b := bxB 36 (Zcz (⟨0, 0, 0, dz, 0⟩ : Head))) (nid := 3) (H' := [rwR Zt l, Y5, dgB ((Zab kk l k).1), Y5]) (Z7 (p := pt 3 0) (v := Zcd (⟨region, epoch, k, (Zab kk l k).1, tick⟩ : Head)) (b := 3) (blk := bxB 36 (Zcz (⟨region, epoch, k, (Zab kk l k).1, tick⟩ : Head))) (H' := [rwR Zt l, Y5, dgB ((Zab kk l k).1), Y6 kk l k region epoch tick]) (Za (Zc (Zf (Zf (Zg (Zp (p := pt 3 0) (v := Zcd (⟨region, epoch, k, (Zab kk l k).1, tick⟩ : Head)) ?_)))))))
  refine Zo (Zqw (G := G) (⟨region, epoch, k, (Zab kk l k).1, tick⟩ : Head)) (vals := [Zcd (⟨region, epoch, k, (Zab kk l k).1, tick⟩ : Head)]) (res' := Iv (Zbn (⟨region, epoch, k, (Zab kk l k).1, tick⟩ : Head))) rfl rfl rfl rfl rfl rfl ?_
  by_cases h2 : (Zbn (⟨region, epoch, k, (Zab kk l k).1, tick⟩ : Head)) ≠ 0
  refine Zl (vx := Iv (Zbn (⟨region, epoch, k, (Zab kk l k).1, tick⟩ : Head))) (vy := Iv 0) rfl rfl (.bool true) rfl rfl (Zea (by omega)) ?_
  refine Za (Zc (Zx rfl (Zf (Zg ?_))))
  refine Za5 (vs := []) (v := Zcd (⟨0, 0, 0, dz, 0⟩ : Head)) rfl rfl rfl (by kernel_rfl) ?_
  refine Z7 (p := pt 1 0) (v := Zcd (⟨0, 0, 0, dz, 0⟩ : Head)) (b := 1) (blk := bxB 36 (Zcz (⟨0, 0, 0, dz, 0⟩ : Head))) (H' := [rwR Zt l, Y5, dgB ((Zab kk l k).1), Y6 kk l k region epoch tick]) (Zb (Iv 100) (Za (Zc (Zq (Zz (Zr ?_))))))
  rw [show Zbf kk l k region epoch tick = (⟨0, 0, 0, dz, 0⟩, 100) from by unfold Zbf; rw [if_pos (by omega), if_neg (by omega)]]
  exact Zk (v := .tuple #[Zcd (⟨0, 0, 0, dz, 0⟩ : Head), Iv 100]) (by kernel_rfl) rfl rfl (by simp [Za0, rwR, Zt]) ⟨(Zin (by kernel_rfl) rfl), rfl, trivial⟩
  refine Zl (vx := Iv (Zbn (⟨region, epoch, k, (Zab kk l k).1, tick⟩ : Head))) (vy := Iv 0) rfl rfl (.bool false) rfl rfl (Zdz (by omega)) ?_
  refine Za (Zc (Zu rfl (Z0 (Zc (Zf (Zg (Zp (p := pt 3 0) (v := Zcd (⟨region, epoch, k, (Zab kk l k).1, tick⟩ : Head)) (Z7 (p := pt 1 0) (v := Zcd (⟨region, epoch, k, (Zab kk l k).1, tick⟩ : Head)) (b := 1) (blk := bxB 36 (Zcz (⟨region, epoch, k, (Zab kk l k).1, tick⟩ : Head))) (H' := [rwR Zt l, Y6 kk l k region epoch tick, dgB ((Zab kk l k).1), Y6 kk l k region epoch tick]) (Zb (Iv 0) (Za (Zc (Zq (Zr ?_)))))))))))))
  rw [show Zbf kk l k region epoch tick = ((⟨region, epoch, k, (Zab kk l k).1, tick⟩ : Head), 0) from by unfold Zbf; rw [if_pos (by omega), if_pos (by omega)]]
  exact Zk (v := .tuple #[Zcd (⟨region, epoch, k, (Zab kk l k).1, tick⟩ : Head), Iv 0]) (by kernel_rfl) rfl rfl (by simp [Za0, rwR, Zt]) ⟨(Zin (by kernel_rfl) rfl), rfl, trivial⟩
theorem Z3j (kk : Nat → BitVec 32) (hG : G 3 = some (Zag w32 64 kk)) (hG1 : G 1 = some (Zag u8N 64 dbF)) (l : List Item) (n c : Nat) (hn : l.length = n) (hc : n ≤ c) (hb : n ≤ 1048576) (k i : Int) : Z6 Tryz.prog G 20 [slv 0 0 n c, Iv k, Iv i] [rwR Zt l] (.tuple #[slv 1 0 (Zaf kk l k i).1.length (Zaf kk l k i).1.length, Iv (Zaf kk l k i).2]) [rwR Zt l, dsB (Zaf kk l k i).1] := by
  refine Za8 (fn := Tryz.f20) (nt := 24) rfl rfl rfl rfl ?_
  refine Zaa 2 (H' := [rwR Zt l, hole, hole]) rfl ?_
  refine Zf (Zg (Zb (.slice none 0 0) (Zb (Iv 0) (Za (Zc (Zf (Zg (Zd (slv 0 0 n c) (Zd (Iv k) ?_)))))))))
  have hfl4 := Zqg kk l k
  refine Z2 (e := [some (0, 0)]) (nid := 1) (Zwv (G := G) kk hG l n c hn (by omega) (by omega) k) (vals := [slv 0 0 n c, Iv k]) (v := .tuple #[slv 1 0 ((Zap kk l k).1.length) ((Zap kk l k).1.length), Iv ((Zap kk l k).2)]) (H' := [rwR Zt l, dsB ((Zap kk l k).1), hole]) rfl rfl rfl rfl rfl rfl rfl ⟨⟨⟨rfl, rfl, rfl, by first | omega | exact Nat.le_refl _, by first | omega | exact Nat.le_refl _⟩, rfl, trivial⟩, ⟨(Zds rfl), trivial⟩, rfl, rfl, rfl⟩ (by kernel_rfl) (by kernel_rfl) ?_
  refine Zd (.tuple #[slv 1 0 ((Zap kk l k).1.length) ((Zap kk l k).1.length), Iv ((Zap kk l k).2)]) (Zw (vs := #[slv 1 0 ((Zap kk l k).1.length) ((Zap kk l k).1.length), Iv ((Zap kk l k).2)]) (v := slv 1 0 ((Zap kk l k).1.length) ((Zap kk l k).1.length)) (Zw (vs := #[slv 1 0 ((Zap kk l k).1.length) ((Zap kk l k).1.length), Iv ((Zap kk l k).2)]) (v := Iv ((Zap kk l k).2)) (Zb (slv 1 0 ((Zap kk l k).1.length) ((Zap kk l k).1.length)) (Zb (Iv ((Zap kk l k).2)) (Za (Zc (Zf (Zf (Zg (Zd (Iv ((Zap kk l k).2)) ?_))))))))))
  by_cases h1 : ((Zap kk l k).2) ≠ 0
  refine Zl (vx := Iv ((Zap kk l k).2)) (vy := Iv 0) rfl rfl (.bool true) rfl rfl (Zea (by omega)) ?_
  refine Za (Zc (Zx rfl (Zf (Zg (Zd (Iv ((Zap kk l k).2)) (Zb (.slice none 0 0) (Zb (Iv ((Zap kk l k).2)) (Za (Zc ?_)))))))))
  refine Zbo (Zb6.nilTmp (i := 6) (b := 2) true 32 rfl (by decide) rfl) ?_
  refine Zq (Zz (Zr ?_))
  rw [show Zaf kk l k i = ([], (Zap kk l k).2) from by unfold Zaf; rw [if_neg (by omega)]]
  exact Zav [0, 2] (v := .tuple #[slv 2 0 0 0, Iv ((Zap kk l k).2)]) rfl (by kernel_rfl) rfl rfl (by decide) (by simp [Za0, rwR, dsB, Zt]) ⟨⟨rfl, rfl, rfl, by first | omega | exact Nat.le_refl _ | exact Nat.zero_le _ | (dsimp only; omega), by first | omega | exact Nat.le_refl _ | exact Nat.zero_le _ | (dsimp only; omega)⟩, rfl, trivial⟩
  refine Zl (vx := Iv ((Zap kk l k).2)) (vy := Iv 0) rfl rfl (.bool false) rfl rfl (Zdz (by omega)) ?_
  refine Za (Zc (Zu rfl (Z0 (Zc (Zf (Zg (Zd (slv 1 0 ((Zap kk l k).1.length) ((Zap kk l k).1.length)) (Zd (Iv i) ?_))))))))
  by_cases h2 : i < 0
  refine Z2 (e := [some (1, 0)]) (nid := 0) (Zs0 (G := G) ((Zap kk l k).1) ((Zap kk l k).1.length) ((Zap kk l k).1.length) i (rfl : _ = _) (by omega)) (vals := [slv 1 0 ((Zap kk l k).1.length) ((Zap kk l k).1.length), Iv i]) (v := .tuple #[.slice none 0 0, Iv 20]) (H' := [rwR Zt l, dsB ((Zap kk l k).1), hole]) rfl rfl rfl rfl rfl rfl rfl ⟨⟨⟨rfl, rfl, rfl, by first | omega | exact Nat.le_refl _, by first | omega | exact Nat.le_refl _⟩, rfl, trivial⟩, ⟨(Zgd rfl), trivial⟩, rfl, rfl, rfl⟩ (by kernel_rfl) (by kernel_rfl) ?_
  refine Zw (vs := #[.slice none 0 0, Iv 20]) (v := .slice none 0 0) (Zw (vs := #[.slice none 0 0, Iv 20]) (v := Iv 20) (Zb (.slice none 0 0) (Zb (Iv 20) (Za (Zc ?_)))))
  refine Zbo (Zb6.nilTmp (i := 6) (b := 2) true 32 rfl (by decide) rfl) ?_
  refine Zq (Zr ?_)
  rw [show Zaf kk l k i = ([], 20) from by unfold Zaf; rw [if_pos (by omega), if_neg (by omega)]]
  exact Zav [0, 2] (v := .tuple #[slv 2 0 0 0, Iv 20]) rfl (by kernel_rfl) rfl rfl (by decide) (by simp [Za0, rwR, dsB, Zt]) ⟨⟨rfl, rfl, rfl, by first | omega | exact Nat.le_refl _ | exact Nat.zero_le _ | (dsimp only; omega), by first | omega | exact Nat.le_refl _ | exact Nat.zero_le _ | (dsimp only; omega)⟩, rfl, trivial⟩
  by_cases h3 : i < ((((Zap kk l k).1.length) : Nat) : Int)
  refine Z2 (e := [some (1, 0)]) (nid := 2) (Z6o (G := G) kk hG hG1 ((Zap kk l k).1) ((Zap kk l k).1.length) i.toNat (n := ((Zap kk l k).1.length)) (rfl : _ = _) (by omega) (by omega) (by omega) rfl) (vals := [slv 1 0 ((Zap kk l k).1.length) ((Zap kk l k).1.length), Iv i]) (v := .tuple #[slv 2 0 ((Zcp kk ((Zap kk l k).1) i.toNat).length) ((Zcp kk ((Zap kk l k).1) i.toNat).length), Iv 0]) (H' := [rwR Zt l, dsB ((Zap kk l k).1), dsB (Zcp kk ((Zap kk l k).1) i.toNat)]) rfl rfl rfl rfl rfl rfl rfl ⟨⟨⟨rfl, rfl, rfl, by first | omega | exact Nat.le_refl _, by first | omega | exact Nat.le_refl _⟩, (congrArg (Value.int .i64) (by omega)), trivial⟩, ⟨(Zgd rfl), trivial⟩, rfl, rfl, rfl⟩ (by kernel_rfl) (by kernel_rfl) ?_
  refine Zw (vs := #[slv 2 0 ((Zcp kk ((Zap kk l k).1) i.toNat).length) ((Zcp kk ((Zap kk l k).1) i.toNat).length), Iv 0]) (v := slv 2 0 ((Zcp kk ((Zap kk l k).1) i.toNat).length) ((Zcp kk ((Zap kk l k).1) i.toNat).length)) (Zw (vs := #[slv 2 0 ((Zcp kk ((Zap kk l k).1) i.toNat).length) ((Zcp kk ((Zap kk l k).1) i.toNat).length), Iv 0]) (v := Iv 0) (Zb (slv 2 0 ((Zcp kk ((Zap kk l k).1) i.toNat).length) ((Zcp kk ((Zap kk l k).1) i.toNat).length)) (Zb (Iv 0) (Za (Zc (Zq (Zr ?_)))))))
  rw [show Zaf kk l k i = (Zcp kk (Zap kk l k).1 i.toNat, 0) from by unfold Zaf; rw [if_pos (by omega), if_pos (by omega)]]
  exact Zav [0, 2] (v := .tuple #[slv 2 0 ((Zcp kk ((Zap kk l k).1) i.toNat).length) ((Zcp kk ((Zap kk l k).1) i.toNat).length), Iv 0]) rfl (by kernel_rfl) rfl rfl (by decide) (by simp [Za0, rwR, dsB, Zt]) ⟨⟨rfl, rfl, rfl, by first | omega | exact Nat.le_refl _ | exact Nat.zero_le _ | (dsimp only; omega), by first | omega | exact Nat.le_refl _ | exact Nat.zero_le _ | (dsimp only; omega)⟩, rfl, trivial⟩
  refine Z2 (e := [some (1, 0)]) (nid := 0) (Zs0 (G := G) ((Zap kk l k).1) ((Zap kk l k).1.length) ((Zap kk l k).1.length) i (rfl : _ = _) (by omega)) (vals := [slv 1 0 ((Zap kk l k).1.length) ((Zap kk l k).1.length), Iv i]) (v := .tuple #[.slice none 0 0, Iv 20]) (H' := [rwR Zt l, dsB ((Zap kk l k).1), hole]) rfl rfl rfl rfl rfl rfl rfl ⟨⟨⟨rfl, rfl, rfl, by first | omega | exact Nat.le_refl _, by first | omega | exact Nat.le_refl _⟩, rfl, trivial⟩, ⟨(Zgd rfl), trivial⟩, rfl, rfl, rfl⟩ (by kernel_rfl) (by kernel_rfl) ?_
  refine Zw (vs := #[.slice none 0 0, Iv 20]) (v := .slice none 0 0) (Zw (vs := #[.slice none 0 0, Iv 20]) (v := Iv 20) (Zb (.slice none 0 0) (Zb (Iv 20) (Za (Zc ?_)))))
  refine Zbo (Zb6.nilTmp (i := 6) (b := 2) true 32 rfl (by decide) rfl) ?_
  refine Zq (Zr ?_)
  rw [show Zaf kk l k i = ([], 20) from by unfold Zaf; rw [if_pos (by omega), if_neg (by omega)]]
  exact Zav [0, 2] (v := .tuple #[slv 2 0 0 0, Iv 20]) rfl (by kernel_rfl) rfl rfl (by decide) (by simp [Za0, rwR, dsB, Zt]) ⟨⟨rfl, rfl, rfl, by first | omega | exact Nat.le_refl _ | exact Nat.zero_le _ | (dsimp only; omega), by first | omega | exact Nat.le_refl _ | exact Nat.zero_le _ | (dsimp only; omega)⟩, rfl, trivial⟩
end Go.Flat
namespace Go.Flat

abbrev Stp := D × Bool
def Zi3 (size index : Nat) (ds : List D) : Option (List Stp) :=
  if h : size ≤ 1 then (if ds.length = 0 then some [] else none)
  else if ds.length = 0 then none
  else if index < Zaz size then (Zi3 (Zaz size) index (ds.take (ds.length - 1))).map fun l => (ds.getD (ds.length - 1) d0, false) :: l
  else (Zi3 (size - Zaz size) (index - Zaz size) (ds.take (ds.length - 1))).map fun l => (ds.getD (ds.length - 1) d0, true) :: l
termination_by size
decreasing_by
  · exact (Zgg (n := size) (by omega)).2
  · have := Zgg (n := size) (by omega); omega
theorem Zk8 {size : Nat} (index : Nat) (ds : List D) (h : size ≤ 1) : Zi3 size index ds = if ds.length = 0 then some [] else none := by
 rw [Zi3, dif_pos h]
theorem Zw9 {size : Nat} (index : Nat) {ds : List D} (h : 2 ≤ size) (h0 : ds.length = 0) : Zi3 size index ds = none := by
 rw [Zi3, dif_neg (by omega), if_pos h0]
theorem Zp1 {size index : Nat} {ds : List D} (h : 2 ≤ size) (h0 : 0 < ds.length) (hi : index < Zaz size) : Zi3 size index ds = (Zi3 (Zaz size) index (ds.take (ds.length - 1))).map fun l => (ds.getD (ds.length - 1) d0, false) :: l := by
 rw [Zi3, dif_neg (by omega), if_neg (by omega), if_pos hi]
theorem Zpz {size index : Nat} {ds : List D} (h : 2 ≤ size) (h0 : 0 < ds.length) (hi : Zaz size ≤ index) : Zi3 size index ds = (Zi3 (size - Zaz size) (index - Zaz size) (ds.take (ds.length - 1))).map fun l => (ds.getD (ds.length - 1) d0, true) :: l := by
 rw [Zi3, dif_neg (by omega), if_neg (by omega), if_neg (by omega)]
theorem Zrs : ∀ (t : Nat) (size index : Nat) (ds : List D) (l : List Stp), size ≤ 2 ^ t → Zi3 size index ds = some l → l.length = ds.length ∧ ds.length ≤ t
  | 0, size, index, ds, l, h, hw => by
    rw [Zk8 index ds (by simpa using h)] at hw
    split at hw
    · rename_i h0
      injection hw with hw; subst hw
      exact ⟨h0.symm, by omega⟩
    · cases hw
  | t + 1, size, index, ds, l, h, hw => by
    by_cases h2 : 2 ≤ size
    · rcases Nat.eq_zero_or_pos ds.length with h0 | h0
      · rw [Zw9 index h2 h0] at hw; cases hw
      · have e := Zor h2
        have h1 := Nat.log2_self_le (n := size - 1) (by omega)
        have h3 := Nat.lt_log2_self (n := size - 1)
        rw [Nat.pow_succ, ← e] at h3
        rw [← e] at h1
        have hk : Zaz size ≤ 2 ^ t := by
          rw [e]
          refine Nat.pow_le_pow_right (by decide) ?_
          have : 2 ^ (size - 1).log2 < 2 ^ (t + 1) := by rw [← e]; omega
          have := (Nat.pow_lt_pow_iff_right (a := 2) (by decide)).1 this
          omega
        by_cases hi : index < Zaz size
        · rw [Zp1 h2 h0 hi] at hw
          obtain ⟨l', h4, rfl⟩ := Option.map_eq_some_iff.1 hw
          have := Zrs t _ _ _ _ hk h4
          simp at this ⊢
          omega
        · rw [Zpz h2 h0 (by omega)] at hw
          obtain ⟨l', h4, rfl⟩ := Option.map_eq_some_iff.1 hw
          have := Zrs t _ _ _ _ (by omega) h4
          simp at this ⊢
          omega
    · rw [Zk8 index ds (by omega)] at hw
      split at hw
      · rename_i h0
        injection hw with hw; subst hw
        exact ⟨h0.symm, by omega⟩
      · cases hw
def knA (kk : Nat → BitVec 32) (leaf : D) : List Stp → List D
  | [] => [leaf]
  | (b, r) :: t => (if r then Zgr kk b ((knA kk leaf t).getD 0 d0) else Zgr kk ((knA kk leaf t).getD 0 d0) b) :: knA kk leaf t
theorem Zz9 (kk : Nat → BitVec 32) (leaf : D) : ∀ l, (knA kk leaf l).length = l.length + 1
 | [] => rfl
 | (b, r) :: t => by simp [knA, Zz9 kk leaf t]
def tx (a b : D) : ByteArray := Zl5 ++ Zm (dgL a) ++ Zm (dgL b)
def knT (kk : Nat → BitVec 32) (leaf : D) : List Stp → List ByteArray
  | [] => []
  | (b, r) :: t => (if r then tx b ((knA kk leaf t).getD 0 d0) else tx ((knA kk leaf t).getD 0 d0) b) :: knT kk leaf t

def Zf8 (l : List Stp) : List Value := (l.map fun p => Zag w8 32 p.1 ++ [Value.bool p.2]).flatten
def Zdp (l : List Stp) : Blk := { cells := Zf8 l, sz := 33, wr := true, fix := false, mv := true, pur := true }
def Zj7 (l : List Stp) : Blk := { cells := Zf8 l, sz := 33, wr := false, fix := false, mv := true, pur := true }
theorem Zm7 (l : List Stp) : (Zf8 l).length = l.length * 33 := by
 induction l with
 | nil => rfl
 | cons p l ih => simp only [Zf8, List.map_cons, List.flatten_cons, List.length_append, Zcf, List.length_cons, List.length_nil] at ih ⊢; omega
theorem Zxb (p q : List Stp) : Zf8 (p ++ q) = Zf8 p ++ Zf8 q := by simp [Zf8]
theorem Z0y (l : List Stp) : (Zf8 l).all Zb9 = true := by
 induction l with
 | nil => rfl
 | cons p l ih =>
  have : Zf8 (p :: l) = Zag w8 32 p.1 ++ [Value.bool p.2] ++ Zf8 l := by simp [Zf8]
  rw [this, List.all_append, List.all_append, Zoq, ih]; rfl
end Go.Flat
namespace Go.Flat
open Go.Proofs
variable {G : Glob}
set_option maxHeartbeats 4000000 in
theorem Zzh (ds : List D) (n c : Nat) (hn : ds.length = n + 1) (hb : n ≤ 1000000) (hc : n + 1 ≤ c) :
  Z6 Tryz.prog G 104 [slv 0 0 (n + 1) c] [dsR ds] (.tuple #[dgV (ds.getD n d0), slv 0 0 n c]) [dsR ds] := by
 refine Za8 (fn := Tryz.f104) (nt := 20) rfl rfl rfl rfl ?_
 refine Zaa 1 (H' := [dsR ds, hole]) rfl ?_
 have hR : (dsR ds).cells.length = ds.length * 32 := Zb8 ds
 have hx : ((n + 1 : Nat) : Int) - 1 = (n : Nat) := by omega
 have hat := Zga ds n (by omega)
 generalize ds.getD n d0 = x at hat ⊢
 repeat (first
  | ((with_reducible apply Zad); rfl; rfl; exact (rfl : _ = Value.pointer (some ⟨0, _, _⟩)); exact Zcy (n := 32) rfl rfl (by omega) hat)
  | ((with_reducible apply Zc7); rfl; rfl; exact (rfl : _ = Value.slice (some ⟨_, _, _⟩) _ _); rfl; rfl; exact Zfv (h := n) rfl rfl hx (by omega) rfl)
  | ((with_reducible apply Zbe (j := n * 32)); rfl; rfl; exact (rfl : _ = Value.slice (some ⟨_, _, _⟩) _ _); (exact (rfl : _ = Value.int _ _)); (exact (rfl : _ = some (_, 32))); omega; omega; omega)
  | ((with_reducible apply Zac); rfl; rfl; (first
  | exact (rfl : _ = Value.int _ _)
  | exact (rfl : _ = Value.slice _ _ _)))
  | ((with_reducible apply Z3); rfl; rfl; (first
  | exact (rfl : _ = Value.int _ _)
  | exact (rfl : _ = Value.slice _ _ _)))
  | ((with_reducible apply Zl); rfl; rfl; (exact (rfl : _ = Value.int _ _)); (exact (rfl : _ = Value.int _ _)); (first
  | with_reducible exact Zer (by omega)
  | with_reducible exact Zc4 rfl (by omega) (by omega)))
  | ((with_reducible apply Zdm); rfl; rfl; (exact (rfl : _ = Value.slice _ _ _)); (exact (rfl : _ = some (Value.int _ _))))
  | ((with_reducible apply Zay); rfl; exact (rfl : _ = Value.pointer (some ⟨_, _, _⟩)); (exact (rfl : _ = Value.agg _)); (rfl); exact (rfl : _ = _ :: _))
  | ((with_reducible apply Zbs (nid := 1)); rfl; rfl; rfl; exact (rfl : _ = _ :: _))
  | with_reducible refine Za ?_
  | with_reducible refine Zg ?_
  | with_reducible refine Zf ?_
  | with_reducible refine Z0 ?_
  | with_reducible refine Zq ?_
  | with_reducible refine Zc ?_
  | (with_reducible refine Zb3 (by kernel_rfl) ?_)
  | (with_reducible refine Zc1 (by kernel_rfl) ?_)
  | ((with_reducible apply Zu); rfl))
 refine Zr ?_
 refine Zk (v := .tuple #[dgV x, slv 0 0 n c]) (by kernel_rfl) rfl rfl (by simp [Za0, dsR]) ?_
 exact ⟨Zbm (Zbu fun _ => rfl) rfl, ⟨rfl, rfl, rfl, by omega, by omega⟩, trivial⟩
set_option maxHeartbeats 4000000 in
theorem Z21 (ds : List D) (c : Nat) (hn : ds.length = 0) : Ztx Tryz.prog G 104 [slv 0 0 0 c] [dsR ds] := by
 refine Z7h (fn := Tryz.f104) (nt := 20) rfl rfl rfl rfl ?_
 refine Zaa 1 (H' := [dsR ds, hole]) rfl ?_
 iterate 15 (first
  | ((with_reducible apply Zac); rfl; rfl; (exact (rfl : _ = Value.slice _ _ _)))
  | ((with_reducible apply Z3); rfl; rfl; (exact (rfl : _ = Value.slice _ _ _)))
  | ((with_reducible apply Zl); rfl; rfl; (exact (rfl : _ = Value.int _ _)); (exact (rfl : _ = Value.int _ _)); (with_reducible exact Zdn (by omega)))
  | ((with_reducible apply Zdm); rfl; rfl; (exact (rfl : _ = Value.slice _ _ _)); (exact (rfl : _ = some (Value.int _ _))))
  | ((with_reducible apply Zbs (nid := 1)); rfl; rfl; rfl; exact (rfl : _ = _ :: _))
  | with_reducible refine Za ?_
  | with_reducible refine Zg ?_
  | with_reducible refine Zf ?_
  | with_reducible refine Zc ?_
  | ((with_reducible apply Zx); rfl))
 refine Zud 2 rfl (rfl : _ = [_, _]) ?_
 repeat (first
  | ((with_reducible apply Zkn); rfl; rfl; exact (rfl : _ = Value.agg _); exact (rfl : _ = some (Value.iface _ _)))
  | ((with_reducible apply Za5); rfl; rfl; rfl; exact (rfl : _ = some (Value.agg _))))
 refine Zkz ⟨Zze rfl rfl, fun u v => ?_⟩
 repeat (first | with_reducible refine Zpy ?_ | with_reducible refine Znd ?_ | with_reducible refine Zn2 ?_)
 exact Z2n
end Go.Flat
