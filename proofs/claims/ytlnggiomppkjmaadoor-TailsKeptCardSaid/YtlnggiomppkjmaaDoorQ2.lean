/- Walks. -/
import Derived.Test.YtlnggiomppkjmaaDoorP2
import Derived.Test.YtlnggiomppkjmaaDoorFlatH
import Derived.Test.YtlnggiomppkjmaaDoorXD
set_option linter.unusedVariables false
set_option linter.unusedSimpArgs false
set_option maxRecDepth 20000
namespace Go.Flat
open Go.Proofs
variable {G : Glob}
def cDg : Cod D := ⟨fun d => Zag w8 32 d, 32, fun _ => rfl, by decide⟩
def acL (kk : Nat → BitVec 32) (l : List Item) : Nat → List D
  | 0 => []
  | k + 1 => acL kk l k ++ [(Zbm kk (l.getD k default)).1]
theorem Zkp (kk : Nat → BitVec 32) (l : List Item) : ∀ k, (acL kk l k).length = k
 | 0 => rfl
 | k + 1 => by rw [acL, List.length_append, Zkp kk l k]; rfl
theorem Zw4 (l : List Item) (m c : Nat) (hm : m ≤ l.length) (hc : m ≤ c) (hb : m ≤ 1048576) : Z4 Tryd.prog G 64 [slv 0 0 m c] [rwR Zh l] (.func (.func 72) #[] #[pt 1 0]) [rwR Zh l, rfB (slv 0 0 m c)] := by
 refine Zbd (fn := Tryd.f64) (nt := 4) rfl rfl rfl rfl ?_
 refine Zae 1 (H' := [rwR Zh l, hole]) rfl ?_
 refine Ze (Zg (Zbs (v := slv 0 0 m c) (b := rfB (slv 0 0 m c)) (nid := 1) (H' := [rwR Zh l, rfB (slv 0 0 m c)]) (Zc .nilFunc (Za (Zb (Ze (Zg ?_)))))))
 refine Zgl (vs := []) (ws := [pt 1 0]) rfl rfl rfl rfl rfl ?_
 refine Zc (.func (.func 72) #[] #[pt 1 0]) (Za (Zb (Zr (Zs ?_))))
 exact Za9 [0, 1] (v := .func (.func 72) #[] #[pt 1 0]) rfl (by kernel_rfl) rfl rfl (by decide) (by simp [Za6, rwR, rfB, Zh0, Zee, Zh]) ⟨by simp [Ze0, Zc6, Ziy, idE], by kernel_rfl⟩
theorem Zsh (kk : Nat → BitVec 32) (hG : G 0 = some (Zag w32 64 kk)) (l : List Item) (m c : Nat) (hm : m ≤ l.length) (hc : m ≤ c) (hb : m ≤ 1048576) : Zxx Tryd.prog G 72 [pt 1 0] m (fun k => [dgV ((Zbm kk (l.getD k default)).1)]) [rwR Zh l, rfB (slv 0 0 m c), rfB (slv 3 0 0 0), dsB (acL kk l 0)] (fun k => [rwR Zh l, rfB (slv 0 0 m c), rfB (slv 3 0 k k), dsB (acL kk l k), bxB 110 (Zb5 (l.getD k default)), dgB ((Zbm kk (l.getD k default)).1)]) (fun k => [rwR Zh l, rfB (slv 0 0 m c), rfB (slv 3 0 (k + 1) (k + 1)), dsB (acL kk l (k + 1)), bxB 110 (Zb5 (l.getD k default)), dgB ((Zbm kk (l.getD k default)).1)]) (fun _ => True) [rwR Zh l, rfB (slv 0 0 m c), rfB (slv 3 0 m m), dsB (acL kk l m)] := by
 refine Zt1 (fn := Tryd.f72) rfl rfl (nt := 23) rfl rfl rfl ?_
 intro E l' Stop hE hd hY
 refine Zi4 ?_
 refine Zno (by kernel_rfl) ?_
 refine Zaj (p := pt 1 0) (v := slv 0 0 m c) rfl rfl rfl rfl ?_
 refine Zba (p := slv 0 0 m c) (v := Iv (m : Nat)) (Zd (Iv 0) (Za (Zak (Zry ?_))))
 refine Z1b hE (fun k : Nat => [.func (.yield l') #[] #[], pt 1 0, dead, dead, dead, dead, dead, slv 0 0 m c, Iv (m : Nat), Iv (k : Nat)]) (fun k : Nat => [rwR Zh l, rfB (slv 0 0 m c), rfB (slv 3 0 k k), dsB (acL kk l k)]) (fun k : Nat => k ≤ m) (fun k : Nat => m - k) 0 (Nat.zero_le _) ?_ ?_
 ·refine Zah (n := 4) rfl ?_ (by kernel_rfl) (by kernel_rfl)
  repeat (first | exact trivial | refine ⟨.inl rfl, ?_⟩ | refine ⟨.inr ⟨rfl, rfl⟩, ?_⟩ | refine ⟨.inr ⟨congrArg (Value.int .i64) (by first | omega | (dsimp only; omega)), rfl⟩, ?_⟩)
 rintro k hk
 refine Z1a hE 2 (H' := [rwR Zh l, rfB (slv 0 0 m c), rfB (slv 3 0 k k), dsB (acL kk l k), hole, hole]) rfl ?_
 have hks : ∀ j, j < k → True := fun _ _ => trivial
 refine Zi4 ?_
 refine Zno (by kernel_rfl) ?_
 by_cases h1 : (k : Nat) < (m : Nat)
 refine Zl (vx := Iv (k : Nat)) (vy := Iv (m : Nat)) rfl rfl (.bool true) rfl rfl (Zc0 (by omega)) ?_
 refine Za (Zak (Zi4 (Z1c rfl (Zvp (Zak (Zi4 (Zry (Zi4 ?_))))))))
 refine Zno (by kernel_rfl) ?_
 refine Zb1 (b := 0) (o := 0) (j := k * 110) (m := m) (c := c) (sz := 110) (i := (k : Nat)) (k := .i64) rfl rfl rfl rfl rfl (by omega) (by omega) (by omega) ?_
 refine Zaj (p := pt 0 (k * 110)) (v := Zcs (l.getD k default)) rfl rfl rfl (Zhf (n := 0) (m := 110) Zh rfl rfl rfl rfl (by omega) (by omega)) ?_
 refine Zaw (b := bxB 110 (Zb5 (⟨0, (⟨0, 0, 0, ⟨#[]⟩, (⟨(⟨0, 0, 0, dz, 0⟩ : Head), 0, dz⟩ : Signed), (⟨0, 0, 0, 0, dz⟩ : Claim)⟩ : Entry)⟩ : Item))) (nid := 4) (H' := [rwR Zh l, rfB (slv 0 0 m c), rfB (slv 3 0 k k), dsB (acL kk l k), bxB 110 (Zb5 (⟨0, (⟨0, 0, 0, ⟨#[]⟩, (⟨(⟨0, 0, 0, dz, 0⟩ : Head), 0, dz⟩ : Signed), (⟨0, 0, 0, 0, dz⟩ : Claim)⟩ : Entry)⟩ : Item)), hole]) (Zaa (p := pt 4 0) (v := Zcs (l.getD k default)) (b := 4) (blk := bxB 110 (Zb5 (l.getD k default))) (H' := [rwR Zh l, rfB (slv 0 0 m c), rfB (slv 3 0 k k), dsB (acL kk l k), bxB 110 (Zb5 (l.getD k default)), hole]) (Za (Zak (Zi4 ?_))))
 refine Zno (by kernel_rfl) ?_
 refine Zm (p := pt 4 0) (v := Zcs (l.getD k default)) ?_
 refine Zq (Z0r (G := G) kk hG (l.getD k default)) (vals := [Zcs (l.getD k default)]) (res' := .tuple #[dgV ((Zbm kk (l.getD k default)).1), Iv ((Zbm kk (l.getD k default)).2)]) rfl rfl rfl rfl rfl (by kernel_rfl) ?_
 refine Zd (.tuple #[dgV ((Zbm kk (l.getD k default)).1), Iv ((Zbm kk (l.getD k default)).2)]) (Z1 (vs := #[dgV ((Zbm kk (l.getD k default)).1), Iv ((Zbm kk (l.getD k default)).2)]) (v := dgV ((Zbm kk (l.getD k default)).1)) (Z1 (vs := #[dgV ((Zbm kk (l.getD k default)).1), Iv ((Zbm kk (l.getD k default)).2)]) (v := Iv ((Zbm kk (l.getD k default)).2)) (Zaw (b := dgB dz) (nid := 5) (H' := [rwR Zh l, rfB (slv 0 0 m c), rfB (slv 3 0 k k), dsB (acL kk l k), bxB 110 (Zb5 (l.getD k default)), dgB dz]) (Zaa (p := pt 5 0) (v := dgV ((Zbm kk (l.getD k default)).1)) (b := 5) (blk := dgB ((Zbm kk (l.getD k default)).1)) (H' := [rwR Zh l, rfB (slv 0 0 m c), rfB (slv 3 0 k k), dsB (acL kk l k), bxB 110 (Zb5 (l.getD k default)), dgB ((Zbm kk (l.getD k default)).1)]) (Zc (Iv ((Zbm kk (l.getD k default)).2)) (Za (Zak (Zi4 ?_))))))))
 refine Zyk (fun w' h => ⟨w', h, rfl⟩) 2 rfl rfl rfl (by kernel_rfl) ?_
 refine Zd (.func (.yield l') #[] #[]) (Zm (p := pt 5 0) (v := dgV ((Zbm kk (l.getD k default)).1)) ?_)
 refine Zq1 ?_
 show Zu5 _ _ _ _ _ _ _ _ _ _ _ _ _
 unfold Zu5
 refine ⟨l', [dgV ((Zbm kk (l.getD k default)).1)], [rwR Zh l, rfB (slv 0 0 m c), rfB (slv 3 0 (k + 1) (k + 1)), dsB (acL kk l (k + 1)), bxB 110 (Zb5 (l.getD k default)), dgB ((Zbm kk (l.getD k default)).1)], True, rfl, rfl, by decide, hY k (by omega) hks, fun hok => ?_, ?_⟩
 refine Zgz (vx := .bool true) rfl rfl (.bool false) rfl Zdk ?_
 refine Za (Zak (Zrz rfl (Zvp (Z8 (Zak ?_)))))
 refine Zno (by kernel_rfl) ?_
 refine Zl (vx := Iv (k : Nat)) (vy := Iv 1) rfl rfl (Iv ((k : Nat) + 1)) rfl rfl (Zan (by omega) (by omega) (by omega)) ?_
 refine Zd (Iv ((k : Nat) + 1)) (Za ?_)
 refine Zak ⟨(k + 1), (show k + 1 ≤ m by omega), by show m - (k + 1) < m - k; omega, ?_⟩
 refine Zah (n := 4) rfl ?_ (by kernel_rfl) (by kernel_rfl)
 repeat (first | exact trivial | refine ⟨.inl rfl, ?_⟩ | refine ⟨.inr ⟨rfl, rfl⟩, ?_⟩ | refine ⟨.inr ⟨congrArg (Value.int .i64) (by first | omega | (dsimp only; omega)), rfl⟩, ?_⟩)
 refine Zgz (vx := .bool false) rfl rfl (.bool true) rfl Zdk ?_
 refine Za (Zak (Z08 rfl (Zyj (Zbg (Zdu (Zdu (Zbg ?_)))))))
 exact ⟨.inr rfl⟩
 refine Zl (vx := Iv (k : Nat)) (vy := Iv (m : Nat)) rfl rfl (.bool false) rfl rfl (Zct (by omega)) ?_
 refine Za (Zak (Zi4 (Zrz rfl (Z09 (Za2 (Za2 (Za1 rfl ?_)))))))
 obtain rfl : k = m := by omega
 exact ⟨⟨.inl rfl, fun _ _ => trivial, _, Zah (l := []) (n := 4) rfl trivial (by kernel_rfl) (by kernel_rfl)⟩⟩
theorem Zwd (kk : Nat → BitVec 32) (hG : G 0 = some (Zag w32 64 kk)) (l : List Item) (m c : Nat) (hm : m ≤ l.length) (hc : m ≤ c) (hb : m ≤ 1048576) : Z4 Tryd.prog G 71 [.slice none 0 0, .func (.func 72) #[] #[pt 1 0]] [rwR Zh l, rfB (slv 0 0 m c)] (slv 2 0 m m) [rwR Zh l, rfB (slv 0 0 m c), dsB (acL kk l m)] := by
  refine Z4.introM (fn := Tryd.f71) rfl rfl (nt := 13) rfl rfl ?_
  refine Ztu (Zyh ?_)
  refine Zvn 2 (H' := [rwR Zh l, rfB (slv 0 0 m c), hole, hole]) rfl ?_
  refine Znn (by kernel_rfl) ?_
  refine Zbs (v := .slice none 0 0) (b := rfB (.slice none 0 0)) (nid := 2) (H' := [rwR Zh l, rfB (slv 0 0 m c), rfB (.slice none 0 0), hole]) (Zc (.slice none 0 0) (Za (Zak (Ztu (Ztu (Zyh ?_))))))
  refine Zvo (Zbe.nilCell (k := 2) (j := 0) (b := 3) true 32 rfl (by decide) rfl (by show 0 < 1; decide) rfl rfl) ?_
  refine Znn (by kernel_rfl) ?_
  refine Zd (.func (.func 72) #[] #[pt 1 0]) (Za (Zak ?_))
  have hiter := Zsh (G := G) kk hG l m c hm hc hb
  refine Zyg (lbs := #[pt 1 0]) (iter := hiter) rfl rfl rfl (by intro _ _; rfl) (by kernel_rfl) ?_ ?_
  · intro lp k hk hks
    refine Zvn 2 (H' := [rwR Zh l, rfB (slv 0 0 m c), rfB (slv 3 0 k k), dsB (acL kk l k), bxB 110 (Zb5 (l.getD k default)), dgB ((Zbm kk (l.getD k default)).1), hole, hole]) rfl ?_
    refine Znn (by kernel_rfl) ?_
    refine Zaw (b := dgB dz) (nid := 6) (H' := [rwR Zh l, rfB (slv 0 0 m c), rfB (slv 3 0 k k), dsB (acL kk l k), bxB 110 (Zb5 (l.getD k default)), dgB ((Zbm kk (l.getD k default)).1), dgB dz, hole]) (Zaa (p := pt 6 0) (v := dgV ((Zbm kk (l.getD k default)).1)) (b := 6) (blk := dgB ((Zbm kk (l.getD k default)).1)) (H' := [rwR Zh l, rfB (slv 0 0 m c), rfB (slv 3 0 k k), dsB (acL kk l k), bxB 110 (Zb5 (l.getD k default)), dgB ((Zbm kk (l.getD k default)).1), dgB ((Zbm kk (l.getD k default)).1), hole]) (Za (Zak (Zyi ?_))))
    refine Znn (by kernel_rfl) ?_
    refine Zaj (p := pt 2 0) (v := slv 3 0 k k) rfl rfl rfl rfl ?_
    refine Zm (p := pt 6 0) (v := dgV ((Zbm kk (l.getD k default)).1)) ?_
    refine Zen (vs := [(0, dgV ((Zbm kk (l.getD k default)).1))]) (v := slv 7 0 1 1) (blk := dsB [(Zbm kk (l.getD k default)).1]) (nid := 7) (H' := [rwR Zh l, rfB (slv 0 0 m c), rfB (slv 3 0 k k), dsB (acL kk l k), bxB 110 (Zb5 (l.getD k default)), dgB ((Zbm kk (l.getD k default)).1), dgB ((Zbm kk (l.getD k default)).1), dsB [(Zbm kk (l.getD k default)).1]]) rfl rfl rfl (by kernel_rfl) (by kernel_rfl) ?_
    have hl1 : ((acL kk l k) ++ [(Zbm kk (l.getD k default)).1]).length = k + 1 := by have := (Zkp kk l k); have := (rfl : _ = 1); first | (rw [List.length_append]; omega) | (rw [List.length_append, List.length_take]; omega) | (simp; omega) | simp
    refine Zc4 (p := slv 3 0 k k) (q := slv 7 0 1 1) (v := slv 3 0 (k + 1) (k + 1)) (b := 3) (blk := dsB ((acL kk l k) ++ [(Zbm kk (l.getD k default)).1])) (H' := [rwR Zh l, rfB (slv 0 0 m c), rfB (dead), dsB ((acL kk l k) ++ [(Zbm kk (l.getD k default)).1]), bxB 110 (Zb5 (l.getD k default)), dgB ((Zbm kk (l.getD k default)).1), dgB ((Zbm kk (l.getD k default)).1), dsB [(Zbm kk (l.getD k default)).1]]) rfl rfl rfl (.inl ⟨_, rfl⟩) rfl rfl (Zh6 cDg (by_ := 32) (k := 1) (n' := k + 1) (ms := [(Zbm kk (l.getD k default)).1]) (fun _ => rfl) rfl rfl (by kernel_rfl) rfl rfl (by have := (Zkp kk l k); omega) (by omega) (by decide) (by omega)) rfl (by kernel_rfl) ?_
    refine Zaa (p := pt 2 0) (v := slv 3 0 (k + 1) (k + 1)) (b := 2) (blk := rfB (slv 3 0 (k + 1) (k + 1))) (H' := [rwR Zh l, rfB (slv 0 0 m c), rfB (slv 3 0 (k + 1) (k + 1)), dsB ((acL kk l k) ++ [(Zbm kk (l.getD k default)).1]), bxB 110 (Zb5 (l.getD k default)), dgB ((Zbm kk (l.getD k default)).1), dgB ((Zbm kk (l.getD k default)).1), dsB [(Zbm kk (l.getD k default)).1]]) (Za (Z8 ?_))
    exact ⟨⟨trivial, _, Zah (l := []) (n := 6) rfl trivial (by kernel_rfl) (by kernel_rfl)⟩⟩
  intro hall
  show CW none _ _ _ _ _ _ _
  refine Z3j ?_
  refine Znn (by kernel_rfl) ?_
  refine Zaj (p := pt 2 0) (v := slv 3 0 m m) rfl rfl rfl rfl ?_
  refine Zc (slv 3 0 m m) (Za (Zak (Zyj (Zdu (Zs ?_)))))
  exact Za9 [0, 1, 3] (v := slv 3 0 m m) rfl (by kernel_rfl) rfl rfl (by decide) (by simp [Za6, rwR, rfB, dsB, Zh0, Zee, Zh]) ⟨rfl, rfl, rfl, by first | omega | exact Nat.le_refl _ | exact Nat.zero_le _ | (dsimp only; omega), by first | omega | exact Nat.le_refl _ | exact Nat.zero_le _ | (dsimp only; omega)⟩
theorem Ztv (kk : Nat → BitVec 32) (hG : G 0 = some (Zag w32 64 kk)) (l : List Item) (m c : Nat) (hm : m ≤ l.length) (hc : m ≤ c) (hb : m ≤ 1048576) : Z4 Tryd.prog G 63 [.func (.func 72) #[] #[pt 1 0]] [rwR Zh l, rfB (slv 0 0 m c)] (slv 2 0 m m) [rwR Zh l, rfB (slv 0 0 m c), dsB (acL kk l m)] := by
  refine Zbd (fn := Tryd.f63) (nt := 5) rfl rfl rfl rfl ?_
  refine Zae 1 (H' := [rwR Zh l, rfB (slv 0 0 m c), hole]) rfl ?_
  refine Ze (Zg (Zc (.slice none 0 0) (Za (Zb (Ze (Zg (Zd (.func (.func 72) #[] #[pt 1 0]) ?_)))))))
  refine Z0 (e := [some (0, 0), some (1, 0)]) (nid := 2) (Zwd (G := G) kk hG l m c hm hc hb) (vals := [.slice none 0 0, .func (.func 72) #[] #[pt 1 0]]) (v := slv 2 0 m m) (H' := [rwR Zh l, rfB (slv 0 0 m c), dsB (acL kk l m)]) rfl rfl rfl rfl rfl rfl rfl ⟨⟨rfl, ⟨by simp [Ze0, Zc6, Ziy, idE], by kernel_rfl⟩, trivial⟩, ⟨(Zaz rfl), (Zad rfl rfl rfl rfl), trivial⟩, rfl, rfl, rfl⟩ (by kernel_rfl) (by kernel_rfl) ?_
  refine Zc (slv 2 0 m m) (Za (Zb (Zr (Zs ?_))))
  exact Za9 [0, 1, 2] (v := slv 2 0 m m) rfl (by kernel_rfl) rfl rfl (by decide) (by simp [Za6, rwR, rfB, dsB, Zh0, Zee, Zh]) ⟨rfl, rfl, rfl, by first | omega | exact Nat.le_refl _ | exact Nat.zero_le _ | (dsimp only; omega), by first | omega | exact Nat.le_refl _ | exact Nat.zero_le _ | (dsimp only; omega)⟩
end Go.Flat
namespace Go.Flat
open Go.Proofs
variable {G : Glob}
def Zbr (kk : Nat → BitVec 32) (l : List Item) (k : Int) : List D × Int := if Zim l then (if 0 ≤ k ∧ k ≤ l.length then (acL kk l k.toNat, 0) else ([], 21)) else ([], 100)
theorem Zyt (kk : Nat → BitVec 32) (l : List Item) (k : Int) : (Zbr kk l k).1.length ≤ 2000 := by
 unfold Zbr
 split
 ·rename_i h
  split
  ·rename_i h2
   have := h.1
   show (acL kk l k.toNat).length ≤ 2000
   rw [Zkp]; omega
  ·exact Nat.zero_le _
 ·exact Nat.zero_le _
def Zbc (kk : Nat → BitVec 32) (l : List Item) (k : Int) : D × Int := if (Zbr kk l k).2 = 0 then (Zfg kk (Zbr kk l k).1, 0) else (dz, (Zbr kk l k).2)
def Z6r (kk : Nat → BitVec 32) (l : List Item) (k region epoch tick : Int) : Head × Int := if (Zbc kk l k).2 = 0 then (if Za3 ⟨region, epoch, k, (Zbc kk l k).1, tick⟩ = 0 then (⟨region, epoch, k, (Zbc kk l k).1, tick⟩, 0) else (⟨0, 0, 0, dz, 0⟩, 100)) else (⟨0, 0, 0, dz, 0⟩, (Zbc kk l k).2)
def Z67 (kk : Nat → BitVec 32) (l : List Item) (k i : Int) : List D × Int := if (Zbr kk l k).2 = 0 then (if 0 ≤ i ∧ i < (Zbr kk l k).1.length then (Z4x kk (Zbr kk l k).1 i.toNat, 0) else ([], 20)) else ([], (Zbr kk l k).2)
def Z63 (kk : Nat → BitVec 32) (l : List Item) (i k : Int) : List D × Int := if (Zbr kk l k).2 = 0 then (if 0 ≤ i ∧ i ≤ (Zbr kk l k).1.length then (if i = 0 then ([], 0) else (Z4t kk (Zbr kk l k).1 i.toNat, 0)) else ([], 21)) else ([], (Zbr kk l k).2)
theorem Zyu (kk : Nat → BitVec 32) (hG : G 0 = some (Zag w32 64 kk)) (l : List Item) (n c : Nat) (hn : l.length = n) (hc : n ≤ c) (hb : n ≤ 1048576) (k : Int) : Z4 Tryd.prog G 51 [slv 0 0 n c, Iv k] [rwR Zh l] (.tuple #[slv 1 0 (Zbr kk l k).1.length (Zbr kk l k).1.length, Iv (Zbr kk l k).2]) [rwR Zh l, dsB (Zbr kk l k).1] := by
  refine Zbd (fn := Tryd.f51) (nt := 21) rfl rfl rfl rfl ?_
  refine Zae 2 (H' := [rwR Zh l, hole, hole]) rfl ?_
  refine Ze (Zg (Zc (.slice none 0 0) (Zc (Iv 0) (Za (Zb (Ze (Z7 (Ze (Zg (Zd (slv 0 0 n c) ?_))))))))))
  refine Z0 (e := [some (0, 0)]) (nid := 0) (Zpb (G := G) l n c hn (by omega) (by omega)) (vals := [slv 0 0 n c]) (v := Iv (Zjx l)) (H' := [rwR Zh l, hole, hole]) rfl rfl rfl rfl rfl rfl rfl ⟨⟨⟨rfl, rfl, rfl, by first | omega | exact Nat.le_refl _, by first | omega | exact Nat.le_refl _⟩, trivial⟩, ⟨(Zaz rfl), trivial⟩, rfl, rfl, rfl⟩ rfl (by kernel_rfl) ?_
  by_cases h1 : (Zjx l) ≠ 0
  refine Zl (vx := Iv (Zjx l)) (vy := Iv 0) rfl rfl (.bool true) rfl rfl (Zfc (by omega)) ?_
  refine Zc (.bool true) (Za (Zb (Zy rfl (Ze (Zg (Zc (.slice none 0 0) (Zc (Iv 100) (Za (Zb ?_)))))))))
  refine Zb6 (Zbe.nilTmp (i := 4) (b := 1) true 32 rfl (by decide) rfl) ?_
  refine Zr (Zbg (Z3 (Zs ?_)))
  rw [show Zbr kk l k = ([], 100) from if_neg (Ze7 (by omega))]
  exact Za9 [0, 1] (v := .tuple #[slv 1 0 0 0, Iv 100]) rfl (by kernel_rfl) rfl rfl (by decide) (by simp [Za6, rwR, dsB, Zh]) ⟨⟨rfl, rfl, rfl, by first | omega | exact Nat.le_refl _ | exact Nat.zero_le _ | (dsimp only; omega), by first | omega | exact Nat.le_refl _ | exact Nat.zero_le _ | (dsimp only; omega)⟩, rfl, trivial⟩
  refine Zl (vx := Iv (Zjx l)) (vy := Iv 0) rfl rfl (.bool false) rfl rfl (Ze3 (by omega)) ?_
  refine Zc (.bool false) (Za (Zb (Zt rfl (Ze (Zg (Zd (Iv k) (Zd (slv 0 0 n c) (Zba (p := slv 0 0 n c) (v := Iv (n : Nat)) ?_))))))))
  by_cases h2 : 0 ≤ k
  by_cases h3 : k ≤ (n : Nat)
  refine Zq ((Zfr (G := G) k 0 (n : Nat)).res (congrArg Value.bool (Zbn (by omega) (by omega)))) (vals := [Iv k, Iv 0, Iv (n : Nat)]) (res' := .bool true) rfl rfl rfl rfl rfl rfl ?_
  refine Zgz (vx := .bool true) rfl rfl (.bool false) rfl Zdk ?_
  refine Zc (.bool false) (Za (Zb (Zt rfl (Zx (Z8 (Zb (Ze ?_)))))))
  obtain ⟨q, rfl⟩ : ∃ x0 : Nat, k = (x0 : Int) := ⟨k.toNat, by omega⟩
  refine Zg (Zd (slv 0 0 n c) (Zd (Iv (q : Nat)) ?_))
  refine Zcu (p := slv 0 0 n c) (vl := none) (vh := some (Iv (q : Nat))) (v := slv 0 0 q c) rfl rfl rfl rfl rfl (Zjg (h := q) rfl rfl (by omega) (by omega) rfl) ?_
  refine Z0 (e := [some (0, 0)]) (nid := 1) (Zw4 (G := G) l q c (by have := hn; omega) (by omega) (by omega)) (vals := [slv 0 0 q c]) (v := .func (.func 72) #[] #[pt 1 0]) (H' := [rwR Zh l, rfB (slv 0 0 q c), hole]) rfl rfl rfl rfl rfl rfl rfl ⟨⟨⟨rfl, rfl, rfl, by omega, by omega⟩, trivial⟩, ⟨(Zaz rfl), trivial⟩, rfl, rfl, rfl⟩ (by kernel_rfl) (by kernel_rfl) ?_
  refine Z0 (e := [some (0, 0), some (1, 0)]) (nid := 2) (Ztv (G := G) kk hG l q c (by have := hn; omega) (by omega) (by omega)) (vals := [.func (.func 72) #[] #[pt 1 0]]) (v := slv 2 0 q q) (H' := [rwR Zh l, rfB (slv 0 0 q c), dsB (acL kk l q)]) rfl rfl rfl rfl rfl rfl rfl ⟨⟨⟨by simp [Ze0, Zc6, Ziy, idE], by kernel_rfl⟩, trivial⟩, ⟨(Zaz rfl), (Zad rfl rfl rfl rfl), trivial⟩, rfl, rfl, rfl⟩ (by kernel_rfl) (by kernel_rfl) ?_
  refine Zc (slv 2 0 q q) (Zc (Iv 0) (Za (Zb (Zr (Zs ?_)))))
  rw [show Zbr kk l ((q : Nat) : Int) = (acL kk l q, 0) from by unfold Zbr; rw [if_pos (Zgp (by omega)), if_pos (by omega)]; rfl]
  rw [show (acL kk l q, (0 : Int)).1.length = q from Zkp kk l q]
  exact Za9 [0, 2] (v := .tuple #[slv 2 0 q q, Iv 0]) rfl (by kernel_rfl) rfl rfl (by decide) (by simp [Za6, rwR, dsB, Zh]) ⟨⟨rfl, rfl, rfl, by first | omega | exact Nat.le_refl _ | exact Nat.zero_le _ | (dsimp only; omega), by first | omega | exact Nat.le_refl _ | exact Nat.zero_le _ | (dsimp only; omega)⟩, rfl, trivial⟩
  refine Zq ((Zfr (G := G) k 0 (n : Nat)).res (congrArg Value.bool (Zab (by omega)))) (vals := [Iv k, Iv 0, Iv (n : Nat)]) (res' := .bool false) rfl rfl rfl rfl rfl rfl ?_
  refine Zgz (vx := .bool false) rfl rfl (.bool true) rfl Zdk ?_
  refine Zc (.bool true) (Za (Zb (Zy rfl (Ze (Zg (Zc (.slice none 0 0) (Zc (Iv 21) (Za (Zb ?_)))))))))
  refine Zb6 (Zbe.nilTmp (i := 4) (b := 1) true 32 rfl (by decide) rfl) ?_
  refine Zr (Zbg (Z3 (Zs ?_)))
  rw [show Zbr kk l k = ([], 21) from by unfold Zbr; rw [if_pos (Zgp (by omega)), if_neg (by omega)]]
  exact Za9 [0, 1] (v := .tuple #[slv 1 0 0 0, Iv 21]) rfl (by kernel_rfl) rfl rfl (by decide) (by simp [Za6, rwR, dsB, Zh]) ⟨⟨rfl, rfl, rfl, by first | omega | exact Nat.le_refl _ | exact Nat.zero_le _ | (dsimp only; omega), by first | omega | exact Nat.le_refl _ | exact Nat.zero_le _ | (dsimp only; omega)⟩, rfl, trivial⟩
  refine Zq ((Zfr (G := G) k 0 (n : Nat)).res (congrArg Value.bool (Zab (by omega)))) (vals := [Iv k, Iv 0, Iv (n : Nat)]) (res' := .bool false) rfl rfl rfl rfl rfl rfl ?_
  refine Zgz (vx := .bool false) rfl rfl (.bool true) rfl Zdk ?_
  refine Zc (.bool true) (Za (Zb (Zy rfl (Ze (Zg (Zc (.slice none 0 0) (Zc (Iv 21) (Za (Zb ?_)))))))))
  refine Zb6 (Zbe.nilTmp (i := 4) (b := 1) true 32 rfl (by decide) rfl) ?_
  refine Zr (Zbg (Z3 (Zs ?_)))
  rw [show Zbr kk l k = ([], 21) from by unfold Zbr; rw [if_pos (Zgp (by omega)), if_neg (by omega)]]
  exact Za9 [0, 1] (v := .tuple #[slv 1 0 0 0, Iv 21]) rfl (by kernel_rfl) rfl rfl (by decide) (by simp [Za6, rwR, dsB, Zh]) ⟨⟨rfl, rfl, rfl, by first | omega | exact Nat.le_refl _ | exact Nat.zero_le _ | (dsimp only; omega), by first | omega | exact Nat.le_refl _ | exact Nat.zero_le _ | (dsimp only; omega)⟩, rfl, trivial⟩
theorem Zxw (kk : Nat → BitVec 32) (hG : G 0 = some (Zag w32 64 kk)) (hG1 : G 2 = some (Zag u8N 64 dbF)) (l : List Item) (n c : Nat) (hn : l.length = n) (hc : n ≤ c) (hb : n ≤ 1048576) (k : Int) : Z4 Tryd.prog G 40 [slv 0 0 n c, Iv k] [rwR Zh l] (.tuple #[dgV (Zbc kk l k).1, Iv (Zbc kk l k).2]) [rwR Zh l] := by
  refine Zbd (fn := Tryd.f40) (nt := 20) rfl rfl rfl rfl ?_
  refine Zae 2 (H' := [rwR Zh l, hole, hole]) rfl ?_
  refine Ze (Zg (Zaw (b := dgB dz) (nid := 1) (H' := [rwR Zh l, dgB dz, hole]) (Zc (Iv 0) (Za (Zb (Ze (Zg (Zd (slv 0 0 n c) (Zd (Iv k) ?_)))))))))
  have hfl3 := Zyt kk l k
  refine Z0 (e := [some (0, 0)]) (nid := 2) (Zyu (G := G) kk hG l n c hn (by omega) (by omega) k) (vals := [slv 0 0 n c, Iv k]) (v := .tuple #[slv 2 0 ((Zbr kk l k).1.length) ((Zbr kk l k).1.length), Iv ((Zbr kk l k).2)]) (H' := [rwR Zh l, dgB dz, dsB ((Zbr kk l k).1)]) rfl rfl rfl rfl rfl rfl rfl ⟨⟨⟨rfl, rfl, rfl, by first | omega | exact Nat.le_refl _, by first | omega | exact Nat.le_refl _⟩, rfl, trivial⟩, ⟨(Zaz rfl), trivial⟩, rfl, rfl, rfl⟩ (by kernel_rfl) (by kernel_rfl) ?_
  refine Zd (.tuple #[slv 2 0 ((Zbr kk l k).1.length) ((Zbr kk l k).1.length), Iv ((Zbr kk l k).2)]) (Z1 (vs := #[slv 2 0 ((Zbr kk l k).1.length) ((Zbr kk l k).1.length), Iv ((Zbr kk l k).2)]) (v := slv 2 0 ((Zbr kk l k).1.length) ((Zbr kk l k).1.length)) (Z1 (vs := #[slv 2 0 ((Zbr kk l k).1.length) ((Zbr kk l k).1.length), Iv ((Zbr kk l k).2)]) (v := Iv ((Zbr kk l k).2)) (Zc (slv 2 0 ((Zbr kk l k).1.length) ((Zbr kk l k).1.length)) (Zc (Iv ((Zbr kk l k).2)) (Za (Zb (Ze (Ze (Zg (Zd (Iv ((Zbr kk l k).2)) ?_))))))))))
  by_cases h1 : ((Zbr kk l k).2) ≠ 0
  refine Zl (vx := Iv ((Zbr kk l k).2)) (vy := Iv 0) rfl rfl (.bool true) rfl rfl (Zfc (by omega)) ?_
  refine Za (Zb (Zy rfl (Ze (Zg ?_))))
  refine Zcz (vs := []) (v := dgV dz) rfl rfl rfl (by kernel_rfl) ?_
  refine Zd (Iv ((Zbr kk l k).2)) (Zaa (p := pt 1 0) (v := dgV dz) (b := 1) (blk := dgB dz) (H' := [rwR Zh l, dgB dz, dsB ((Zbr kk l k).1)]) (Zc (Iv ((Zbr kk l k).2)) (Za (Zb (Zr (Z3 (Zs ?_)))))))
  rw [show Zbc kk l k = (dz, (Zbr kk l k).2) from if_neg (by omega)]
  exact Zk (v := .tuple #[dgV dz, Iv ((Zbr kk l k).2)]) (by kernel_rfl) rfl rfl (by simp [Za6, rwR, Zh]) ⟨(Ze1 (Zex fun _ => rfl) rfl), rfl, trivial⟩
  refine Zl (vx := Iv ((Zbr kk l k).2)) (vy := Iv 0) rfl rfl (.bool false) rfl rfl (Ze3 (by omega)) ?_
  refine Za (Zb (Zt rfl (Zx (Zb (Ze (Zg (Zd (slv 2 0 ((Zbr kk l k).1.length) ((Zbr kk l k).1.length)) ?_)))))))
  refine Z0 (e := [some (2, 0)]) (nid := 0) (Zx0 (G := G) kk hG hG1 ((Zbr kk l k).1) (c := ((Zbr kk l k).1.length)) (n := ((Zbr kk l k).1.length)) (rfl : _ = _) (by omega) (by omega) rfl) (vals := [slv 2 0 ((Zbr kk l k).1.length) ((Zbr kk l k).1.length)]) (v := dgV (Zfg kk ((Zbr kk l k).1))) (H' := [rwR Zh l, dgB dz, dsB ((Zbr kk l k).1)]) rfl rfl rfl rfl rfl rfl rfl ⟨⟨⟨rfl, rfl, rfl, by first | omega | exact Nat.le_refl _, by first | omega | exact Nat.le_refl _⟩, trivial⟩, ⟨(Z1i rfl), trivial⟩, rfl, rfl, rfl⟩ (by kernel_rfl) (by kernel_rfl) ?_
  refine Zaa (p := pt 1 0) (v := dgV (Zfg kk ((Zbr kk l k).1))) (b := 1) (blk := dgB (Zfg kk ((Zbr kk l k).1))) (H' := [rwR Zh l, dgB (Zfg kk ((Zbr kk l k).1)), dsB ((Zbr kk l k).1)]) (Zc (Iv 0) (Za (Zb (Zr (Zs ?_)))))
  rw [show Zbc kk l k = (Zfg kk (Zbr kk l k).1, 0) from if_pos (by omega)]
  exact Zk (v := .tuple #[dgV (Zfg kk ((Zbr kk l k).1)), Iv 0]) (by kernel_rfl) rfl rfl (by simp [Za6, rwR, Zh]) ⟨(Ze1 (Zex fun _ => rfl) rfl), rfl, trivial⟩
end Go.Flat
