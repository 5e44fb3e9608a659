/- Walks. -/
import Derived.Test.YtfjkagjbanhdlaaDoorP2
import Derived.Test.YtfjkagjbanhdlaaDoorFlatH
import Derived.Test.YtfjkagjbanhdlaaDoorRef
import Derived.Test.YtfjkagjbanhdlaaDoorFlatG
set_option linter.unusedVariables false
set_option linter.unusedSimpArgs false
set_option maxRecDepth 20000
namespace Go.Flat
open Go.Proofs
variable {G : Glob}
def cDg : Cod D := ⟨fun d => Zad w8 32 d, 32, fun _ => rfl, by decide⟩
def acL (kk : Nat → BitVec 32) (l : List Item) : Nat → List D
  | 0 => []
  | k + 1 => acL kk l k ++ [(Zao kk (l.getD k default)).1]
theorem Zfh (kk : Nat → BitVec 32) (l : List Item) : ∀ k, (acL kk l k).length = k
 | 0 => rfl
 | k + 1 => by rw [acL, List.length_append, Zfh kk l k]; rfl
theorem Zye (l : List Item) (m c : Nat) (hm : m ≤ l.length) (hc : m ≤ c) (hb : m ≤ 1048576) : Zaf Tryd.prog G 61 [slv 0 0 m c] [rwR Zk l] (.func (.func 76) #[] #[pt 1 0]) [rwR Zk l, rfB (slv 0 0 m c)] := by
 refine Zbj (fn := Tryd.f61) (nt := 4) rfl rfl rfl rfl ?_
 refine Zai 1 (H' := [rwR Zk l, hole]) rfl ?_
 refine Zg (Zj ?_)
 refine Zcj (v := slv 0 0 m c) (b := rfB (slv 0 0 m c)) (nid := 1) (H' := [rwR Zk l, rfB (slv 0 0 m c)]) rfl rfl rfl (by kernel_rfl) (by kernel_rfl) ?_
 refine Zd rfl rfl .nilFunc rfl (Zb (Zc (Zg (Zj ?_))))
 refine Zm3 (vs := []) (ws := [pt 1 0]) rfl rfl rfl rfl rfl ?_
 refine Zd rfl rfl (.func (.func 76) #[] #[pt 1 0]) rfl (Zb (Zc (Zx (Zy ?_))))
 exact Za2 [0, 1] (v := .func (.func 76) #[] #[pt 1 0]) rfl (by kernel_rfl) rfl rfl (by decide) (by simp [Za8, rwR, rfB, Zlo, Zfw, Zk]) ⟨by simp [Zhc, Zdn, Zjy, idE], by kernel_rfl⟩
theorem Zst (kk : Nat → BitVec 32) (hG : G 0 = some (Zad w32 64 kk)) (l : List Item) (m c : Nat) (hm : m ≤ l.length) (hc : m ≤ c) (hb : m ≤ 1048576) : Zzv Tryd.prog G 76 [pt 1 0] m (fun k => [dgV ((Zao kk (l.getD k default)).1)]) [rwR Zk l, rfB (slv 0 0 m c), rfB (slv 3 0 0 0), dsB (acL kk l 0)] (fun k => [rwR Zk l, rfB (slv 0 0 m c), rfB (slv 3 0 k k), dsB (acL kk l k), bxB 110 (Zh (l.getD k default)), dgB ((Zao kk (l.getD k default)).1)]) (fun k => [rwR Zk l, rfB (slv 0 0 m c), rfB (slv 3 0 (k + 1) (k + 1)), dsB (acL kk l (k + 1)), bxB 110 (Zh (l.getD k default)), dgB ((Zao kk (l.getD k default)).1)]) (fun _ => True) [rwR Zk l, rfB (slv 0 0 m c), rfB (slv 3 0 m m), dsB (acL kk l m)] := by
 refine Zva (fn := Tryd.f76) rfl rfl (nt := 23) rfl rfl rfl ?_
 intro E l' Stop hE hd hY
 refine Zkk ?_
 refine Zpu (by kernel_rfl) ?_
 refine Zp (p := pt 1 0) (v := slv 0 0 m c) rfl rfl rfl rfl ?_
 refine Zbl (p := slv 0 0 m c) (v := Iv (m : Nat)) rfl rfl rfl rfl ?_
 refine Zf rfl rfl (Iv 0) rfl (Zb (Zaw (Zs4 ?_)))
 refine Z2k hE (fun k : Nat => [.func (.yield l') #[] #[], pt 1 0, dead, dead, dead, dead, dead, slv 0 0 m c, Iv (m : Nat), Iv (k : Nat)]) (fun k : Nat => [rwR Zk l, rfB (slv 0 0 m c), rfB (slv 3 0 k k), dsB (acL kk l k)]) (fun k : Nat => k ≤ m) (fun k : Nat => m - k) 0 (Nat.zero_le _) ?_ ?_
 ·refine Zal (n := 4) rfl ?_ (by kernel_rfl) (by kernel_rfl)
  repeat (first | exact trivial | refine ⟨.inl rfl, ?_⟩ | refine ⟨.inr ⟨rfl, rfl⟩, ?_⟩ | refine ⟨.inr ⟨congrArg (Value.int .i64) (by first | omega | (dsimp only; omega)), rfl⟩, ?_⟩)
 rintro k hk
 refine Z2g hE 2 (H' := [rwR Zk l, rfB (slv 0 0 m c), rfB (slv 3 0 k k), dsB (acL kk l k), hole, hole]) rfl ?_
 have hks : ∀ j, j < k → True := fun _ _ => trivial
 refine Zkk ?_
 refine Zpu (by kernel_rfl) ?_
 by_cases h1 : (k : Nat) < (m : Nat)
 refine Zo (vx := Iv (k : Nat)) (vy := Iv (m : Nat)) rfl rfl (.bool true) rfl rfl (Zco (by omega)) ?_
 refine Zb (Zaw (Zkk (Z2n rfl (Zwz (Zaw (Zkk (Zs4 (Zkk ?_))))))))
 refine Zpu (by kernel_rfl) ?_
 refine Zba (b := 0) (o := 0) (j := k * 110) (m := m) (c := c) (sz := 110) (i := (k : Nat)) (k := .i64) rfl rfl rfl rfl rfl (by omega) (by omega) (by omega) ?_
 refine Zp (p := pt 0 (k * 110)) (v := Zay (l.getD k default)) rfl rfl rfl (Zkw (n := 0) (m := 110) Zk rfl rfl rfl rfl (by omega) (by omega)) ?_
 refine Z2 (b := bxB 110 (Zh (⟨0, (⟨0, 0, 0, ⟨#[]⟩, (⟨(⟨0, 0, 0, dz, 0⟩ : Head), 0, dz⟩ : Signed), (⟨0, 0, 0, 0, dz⟩ : Claim)⟩ : Entry)⟩ : Item))) (nid := 4) (H' := [rwR Zk l, rfB (slv 0 0 m c), rfB (slv 3 0 k k), dsB (acL kk l k), bxB 110 (Zh (⟨0, (⟨0, 0, 0, ⟨#[]⟩, (⟨(⟨0, 0, 0, dz, 0⟩ : Head), 0, dz⟩ : Signed), (⟨0, 0, 0, 0, dz⟩ : Claim)⟩ : Entry)⟩ : Item)), hole]) rfl rfl (by kernel_rfl) (by kernel_rfl) ?_
 refine Zw (p := pt 4 0) (v := Zay (l.getD k default)) (b := 4) (blk := bxB 110 (Zh (l.getD k default))) (H' := [rwR Zk l, rfB (slv 0 0 m c), rfB (slv 3 0 k k), dsB (acL kk l k), bxB 110 (Zh (l.getD k default)), hole]) rfl rfl rfl (by kernel_rfl) (by kernel_rfl) ?_
 refine Zb (Zaw (Zkk ?_))
 refine Zpu (by kernel_rfl) ?_
 refine Zp (p := pt 4 0) (v := Zay (l.getD k default)) rfl rfl rfl (by kernel_rfl) ?_
 refine Zt (Zxr (G := G) kk hG (l.getD k default)) (vals := [Zay (l.getD k default)]) (res' := .tuple #[dgV ((Zao kk (l.getD k default)).1), Iv ((Zao kk (l.getD k default)).2)]) rfl rfl rfl rfl rfl (by kernel_rfl) ?_
 refine Zf rfl rfl (.tuple #[dgV ((Zao kk (l.getD k default)).1), Iv ((Zao kk (l.getD k default)).2)]) rfl (Zu (vs := #[dgV ((Zao kk (l.getD k default)).1), Iv ((Zao kk (l.getD k default)).2)]) (v := dgV ((Zao kk (l.getD k default)).1)) rfl rfl rfl rfl (Zu (vs := #[dgV ((Zao kk (l.getD k default)).1), Iv ((Zao kk (l.getD k default)).2)]) (v := Iv ((Zao kk (l.getD k default)).2)) rfl rfl rfl rfl ?_))
 refine Z2 (b := dgB dz) (nid := 5) (H' := [rwR Zk l, rfB (slv 0 0 m c), rfB (slv 3 0 k k), dsB (acL kk l k), bxB 110 (Zh (l.getD k default)), dgB dz]) rfl rfl (by kernel_rfl) (by kernel_rfl) ?_
 refine Zw (p := pt 5 0) (v := dgV ((Zao kk (l.getD k default)).1)) (b := 5) (blk := dgB ((Zao kk (l.getD k default)).1)) (H' := [rwR Zk l, rfB (slv 0 0 m c), rfB (slv 3 0 k k), dsB (acL kk l k), bxB 110 (Zh (l.getD k default)), dgB ((Zao kk (l.getD k default)).1)]) rfl rfl rfl (by kernel_rfl) (by kernel_rfl) ?_
 refine Zd rfl rfl (Iv ((Zao kk (l.getD k default)).2)) rfl (Zb (Zaw (Zkk ?_)))
 refine Z1a (fun w' h => ⟨w', h, rfl⟩) 2 rfl rfl rfl (by kernel_rfl) ?_
 refine Zf rfl rfl (.func (.yield l') #[] #[]) rfl ?_
 refine Zp (p := pt 5 0) (v := dgV ((Zao kk (l.getD k default)).1)) rfl rfl rfl (by kernel_rfl) ?_
 refine Zkh ?_
 show Zxw _ _ _ _ _ _ _ _ _ _ _ _ _
 unfold Zxw
 refine ⟨l', [dgV ((Zao kk (l.getD k default)).1)], [rwR Zk l, rfB (slv 0 0 m c), rfB (slv 3 0 (k + 1) (k + 1)), dsB (acL kk l (k + 1)), bxB 110 (Zh (l.getD k default)), dgB ((Zao kk (l.getD k default)).1)], True, rfl, rfl, by decide, hY k (by omega) hks, fun hok => ?_, ?_⟩
 refine Ziy (vx := .bool true) rfl rfl (.bool false) rfl Zer ?_
 refine Zb (Zaw (Ztc rfl (Zwz (Z3 (Zaw ?_)))))
 refine Zpu (by kernel_rfl) ?_
 refine Zo (vx := Iv (k : Nat)) (vy := Iv 1) rfl rfl (Iv ((k : Nat) + 1)) rfl rfl (Zav (by omega) (by omega) (by omega)) ?_
 refine Zf rfl rfl (Iv ((k : Nat) + 1)) rfl (Zb ?_)
 refine Zaw ⟨(k + 1), (show k + 1 ≤ m by omega), by show m - (k + 1) < m - k; omega, ?_⟩
 refine Zal (n := 4) rfl ?_ (by kernel_rfl) (by kernel_rfl)
 repeat (first | exact trivial | refine ⟨.inl rfl, ?_⟩ | refine ⟨.inr ⟨rfl, rfl⟩, ?_⟩ | refine ⟨.inr ⟨congrArg (Value.int .i64) (by first | omega | (dsimp only; omega)), rfl⟩, ?_⟩)
 refine Ziy (vx := .bool false) rfl rfl (.bool true) rfl Zer ?_
 refine Zb (Zaw (Z17 rfl (Zzw (Zc1 (Zez (Zez (Zc1 ?_)))))))
 exact ⟨.inr rfl⟩
 refine Zo (vx := Iv (k : Nat)) (vy := Iv (m : Nat)) rfl rfl (.bool false) rfl rfl (Zce (by omega)) ?_
 refine Zb (Zaw (Zkk (Ztc rfl (Z3d (Zau (Zau (Zas rfl ?_)))))))
 obtain rfl : k = m := by omega
 exact ⟨⟨.inl rfl, fun _ _ => trivial, _, Zal (l := []) (n := 4) rfl trivial (by kernel_rfl) (by kernel_rfl)⟩⟩
theorem Zzb (kk : Nat → BitVec 32) (hG : G 0 = some (Zad w32 64 kk)) (l : List Item) (m c : Nat) (hm : m ≤ l.length) (hc : m ≤ c) (hb : m ≤ 1048576) : Zaf Tryd.prog G 75 [.slice none 0 0, .func (.func 76) #[] #[pt 1 0]] [rwR Zk l, rfB (slv 0 0 m c)] (slv 2 0 m m) [rwR Zk l, rfB (slv 0 0 m c), dsB (acL kk l m)] := by
  refine Zaf.introM (fn := Tryd.f75) rfl rfl (nt := 13) rfl rfl ?_
  refine Zv0 (Z1b ?_)
  refine Zx3 2 (H' := [rwR Zk l, rfB (slv 0 0 m c), hole, hole]) rfl ?_
  refine Zo9 (by kernel_rfl) ?_
  refine Zcj (v := .slice none 0 0) (b := rfB (.slice none 0 0)) (nid := 2) (H' := [rwR Zk l, rfB (slv 0 0 m c), rfB (.slice none 0 0), hole]) rfl rfl rfl (by kernel_rfl) (by kernel_rfl) ?_
  refine Zd rfl rfl (.slice none 0 0) rfl (Zb (Zaw (Zv0 (Zv0 (Z1b ?_)))))
  refine Zwq (Zbt.nilCell (k := 2) (j := 0) (b := 3) true 32 rfl (by decide) rfl (by show 0 < 1; decide) rfl rfl) ?_
  refine Zo9 (by kernel_rfl) ?_
  refine Zf rfl rfl (.func (.func 76) #[] #[pt 1 0]) rfl (Zb (Zaw ?_))
  have hiter := Zst (G := G) kk hG l m c hm hc hb
  refine Z0i (lbs := #[pt 1 0]) (iter := hiter) rfl rfl rfl (by intro _ _; rfl) (by kernel_rfl) ?_ ?_
  · intro lp k hk hks
    refine Zx3 2 (H' := [rwR Zk l, rfB (slv 0 0 m c), rfB (slv 3 0 k k), dsB (acL kk l k), bxB 110 (Zh (l.getD k default)), dgB ((Zao kk (l.getD k default)).1), hole, hole]) rfl ?_
    refine Zo9 (by kernel_rfl) ?_
    refine Z2 (b := dgB dz) (nid := 6) (H' := [rwR Zk l, rfB (slv 0 0 m c), rfB (slv 3 0 k k), dsB (acL kk l k), bxB 110 (Zh (l.getD k default)), dgB ((Zao kk (l.getD k default)).1), dgB dz, hole]) rfl rfl (by kernel_rfl) (by kernel_rfl) ?_
    refine Zw (p := pt 6 0) (v := dgV ((Zao kk (l.getD k default)).1)) (b := 6) (blk := dgB ((Zao kk (l.getD k default)).1)) (H' := [rwR Zk l, rfB (slv 0 0 m c), rfB (slv 3 0 k k), dsB (acL kk l k), bxB 110 (Zh (l.getD k default)), dgB ((Zao kk (l.getD k default)).1), dgB ((Zao kk (l.getD k default)).1), hole]) rfl rfl rfl (by kernel_rfl) (by kernel_rfl) ?_
    refine Zb (Zaw (Z1c ?_))
    refine Zo9 (by kernel_rfl) ?_
    refine Zp (p := pt 2 0) (v := slv 3 0 k k) rfl rfl rfl rfl ?_
    refine Zp (p := pt 6 0) (v := dgV ((Zao kk (l.getD k default)).1)) rfl rfl rfl (by kernel_rfl) ?_
    refine Zdh (vs := [(0, dgV ((Zao kk (l.getD k default)).1))]) (v := slv 7 0 1 1) (blk := dsB [(Zao kk (l.getD k default)).1]) (nid := 7) (H' := [rwR Zk l, rfB (slv 0 0 m c), rfB (slv 3 0 k k), dsB (acL kk l k), bxB 110 (Zh (l.getD k default)), dgB ((Zao kk (l.getD k default)).1), dgB ((Zao kk (l.getD k default)).1), dsB [(Zao kk (l.getD k default)).1]]) rfl rfl rfl (by kernel_rfl) (by kernel_rfl) ?_
    have hl1 : ((acL kk l k) ++ [(Zao kk (l.getD k default)).1]).length = k + 1 := by have := (Zfh kk l k); have := (rfl : _ = 1); first | (rw [List.length_append]; omega) | (rw [List.length_append, List.length_take]; omega) | (simp; omega) | simp
    refine Zbo (p := slv 3 0 k k) (q := slv 7 0 1 1) (v := slv 3 0 (k + 1) (k + 1)) (b := 3) (blk := dsB ((acL kk l k) ++ [(Zao kk (l.getD k default)).1])) (H' := [rwR Zk l, rfB (slv 0 0 m c), rfB (dead), dsB ((acL kk l k) ++ [(Zao kk (l.getD k default)).1]), bxB 110 (Zh (l.getD k default)), dgB ((Zao kk (l.getD k default)).1), dgB ((Zao kk (l.getD k default)).1), dsB [(Zao kk (l.getD k default)).1]]) rfl rfl rfl (.inl ⟨_, rfl⟩) rfl rfl (Zfi cDg (by_ := 32) (k := 1) (n' := k + 1) (ms := [(Zao kk (l.getD k default)).1]) (fun _ => rfl) rfl rfl (by kernel_rfl) rfl rfl (by have := (Zfh kk l k); omega) (by omega) (by decide) (by omega)) rfl (by kernel_rfl) ?_
    refine Zw (p := pt 2 0) (v := slv 3 0 (k + 1) (k + 1)) (b := 2) (blk := rfB (slv 3 0 (k + 1) (k + 1))) (H' := [rwR Zk l, rfB (slv 0 0 m c), rfB (slv 3 0 (k + 1) (k + 1)), dsB ((acL kk l k) ++ [(Zao kk (l.getD k default)).1]), bxB 110 (Zh (l.getD k default)), dgB ((Zao kk (l.getD k default)).1), dgB ((Zao kk (l.getD k default)).1), dsB [(Zao kk (l.getD k default)).1]]) rfl rfl rfl (by kernel_rfl) (by kernel_rfl) ?_
    refine Zb (Z3 ?_)
    exact ⟨⟨trivial, _, Zal (l := []) (n := 6) rfl trivial (by kernel_rfl) (by kernel_rfl)⟩⟩
  intro hall
  show CW none _ _ _ _ _ _ _
  refine Z42 ?_
  refine Zo9 (by kernel_rfl) ?_
  refine Zp (p := pt 2 0) (v := slv 3 0 m m) rfl rfl rfl rfl ?_
  refine Zd rfl rfl (slv 3 0 m m) rfl (Zb (Zaw (Zzw (Zez (Zy ?_)))))
  exact Za2 [0, 1, 3] (v := slv 3 0 m m) rfl (by kernel_rfl) rfl rfl (by decide) (by simp [Za8, rwR, rfB, dsB, Zlo, Zfw, Zk]) ⟨rfl, rfl, rfl, by first | omega | exact Nat.le_refl _ | exact Nat.zero_le _ | (dsimp only; omega), by first | omega | exact Nat.le_refl _ | exact Nat.zero_le _ | (dsimp only; omega)⟩
theorem Zvj (kk : Nat → BitVec 32) (hG : G 0 = some (Zad w32 64 kk)) (l : List Item) (m c : Nat) (hm : m ≤ l.length) (hc : m ≤ c) (hb : m ≤ 1048576) : Zaf Tryd.prog G 60 [.func (.func 76) #[] #[pt 1 0]] [rwR Zk l, rfB (slv 0 0 m c)] (slv 2 0 m m) [rwR Zk l, rfB (slv 0 0 m c), dsB (acL kk l m)] := by
  refine Zbj (fn := Tryd.f60) (nt := 5) rfl rfl rfl rfl ?_
  refine Zai 1 (H' := [rwR Zk l, rfB (slv 0 0 m c), hole]) rfl ?_
  refine Zg (Zj (Zd rfl rfl (.slice none 0 0) rfl (Zb (Zc (Zg (Zj (Zf rfl rfl (.func (.func 76) #[] #[pt 1 0]) rfl ?_)))))))
  refine Z4 (e := [some (0, 0), some (1, 0)]) (nid := 2) (Zzb (G := G) kk hG l m c hm hc hb) (vals := [.slice none 0 0, .func (.func 76) #[] #[pt 1 0]]) (v := slv 2 0 m m) (H' := [rwR Zk l, rfB (slv 0 0 m c), dsB (acL kk l m)]) rfl rfl rfl rfl rfl rfl rfl ⟨⟨rfl, ⟨by simp [Zhc, Zdn, Zjy, idE], by kernel_rfl⟩, trivial⟩, ⟨(Zc0 rfl), (Zax rfl rfl rfl rfl), trivial⟩, rfl, rfl, rfl⟩ (by kernel_rfl) (by kernel_rfl) ?_
  refine Zd rfl rfl (slv 2 0 m m) rfl (Zb (Zc (Zx (Zy ?_))))
  exact Za2 [0, 1, 2] (v := slv 2 0 m m) rfl (by kernel_rfl) rfl rfl (by decide) (by simp [Za8, rwR, rfB, dsB, Zlo, Zfw, Zk]) ⟨rfl, rfl, rfl, by first | omega | exact Nat.le_refl _ | exact Nat.zero_le _ | (dsimp only; omega), by first | omega | exact Nat.le_refl _ | exact Nat.zero_le _ | (dsimp only; omega)⟩
end Go.Flat
namespace Go.Flat
open Go.Proofs
variable {G : Glob}
def Zah (kk : Nat → BitVec 32) (l : List Item) (k : Int) : List D × Int := if Zdj l then (if 0 ≤ k ∧ k ≤ l.length then (acL kk l k.toNat, 0) else ([], 21)) else ([], 100)
theorem Zpq (kk : Nat → BitVec 32) (l : List Item) (k : Int) : (Zah kk l k).1.length ≤ 2000 := by
 unfold Zah
 split
 ·rename_i h
  split
  ·rename_i h2
   have := h.1
   show (acL kk l k.toNat).length ≤ 2000
   rw [Zfh]; omega
  ·exact Nat.zero_le _
 ·exact Nat.zero_le _
def Zae (kk : Nat → BitVec 32) (l : List Item) (k : Int) : D × Int := if (Zah kk l k).2 = 0 then (Zb8 kk (Zah kk l k).1, 0) else (dz, (Zah kk l k).2)
def Zab (kk : Nat → BitVec 32) (l : List Item) (k region epoch tick : Int) : Head × Int := if (Zae kk l k).2 = 0 then (if Za4 ⟨region, epoch, k, (Zae kk l k).1, tick⟩ = 0 then (⟨region, epoch, k, (Zae kk l k).1, tick⟩, 0) else (⟨0, 0, 0, dz, 0⟩, 100)) else (⟨0, 0, 0, dz, 0⟩, (Zae kk l k).2)
def Zl (kk : Nat → BitVec 32) (l : List Item) (k i : Int) : List D × Int := if (Zah kk l k).2 = 0 then (if 0 ≤ i ∧ i < (Zah kk l k).1.length then (Zc8 kk (Zah kk l k).1 i.toNat, 0) else ([], 20)) else ([], (Zah kk l k).2)
def Z6z (kk : Nat → BitVec 32) (l : List Item) (i k : Int) : List D × Int := if (Zah kk l k).2 = 0 then (if 0 ≤ i ∧ i ≤ (Zah kk l k).1.length then (if i = 0 then ([], 0) else (Z54 kk (Zah kk l k).1 i.toNat, 0)) else ([], 21)) else ([], (Zah kk l k).2)
theorem Zq4 (ds : List D) (c n : Nat) (i : Int) (hn : ds.length = n) (h : i < 0 ∨ (n : Int) ≤ i) : Zaf Tryd.prog G 46 [slv 0 0 n c, Iv i] [dsR ds] (.tuple #[Zzi, Iv 20]) [dsR ds] := by subst hn; exact Zqn ds c i h
theorem Zsx (kk : Nat → BitVec 32) (hG : G 0 = some (Zad w32 64 kk)) (l : List Item) (n c : Nat) (hn : l.length = n) (hc : n ≤ c) (hb : n ≤ 1048576) (k : Int) : Zaf Tryd.prog G 39 [slv 0 0 n c, Iv k] [rwR Zk l] (.tuple #[slv 1 0 (Zah kk l k).1.length (Zah kk l k).1.length, Iv (Zah kk l k).2]) [rwR Zk l, dsB (Zah kk l k).1] := by
  refine Zbj (fn := Tryd.f39) (nt := 21) rfl rfl rfl rfl ?_
  refine Zai 2 (H' := [rwR Zk l, hole, hole]) rfl ?_
  refine Zg (Zj (Zd rfl rfl (.slice none 0 0) rfl (Zd rfl rfl (Iv 0) rfl (Zb (Zc (Zg (Z7 (Zg (Zj (Zf rfl rfl (slv 0 0 n c) rfl ?_))))))))))
  refine Z4 (e := [some (0, 0)]) (nid := 0) (Zkt (G := G) l n c hn (by omega) (by omega)) (vals := [slv 0 0 n c]) (v := Iv (Zgn l)) (H' := [rwR Zk l, hole, hole]) rfl rfl rfl rfl rfl rfl rfl ⟨⟨⟨rfl, rfl, rfl, by first | omega | exact Nat.le_refl _, by first | omega | exact Nat.le_refl _⟩, trivial⟩, ⟨(Zc0 rfl), trivial⟩, rfl, rfl, rfl⟩ rfl (by kernel_rfl) ?_
  by_cases h1 : (Zgn l) ≠ 0
  refine Zo (vx := Iv (Zgn l)) (vy := Iv 0) rfl rfl (.bool true) rfl rfl (Zdr (by omega)) ?_
  refine Zd rfl rfl (.bool true) rfl (Zb (Zc (Z0 rfl (Zg (Zj (Zd rfl rfl (.slice none 0 0) rfl (Zd rfl rfl (Iv 100) rfl (Zb (Zc ?_)))))))))
  refine Zby (Zbt.nilTmp (i := 4) (b := 1) true 32 rfl (by decide) rfl) ?_
  refine Zx (Zc1 (Zaa (Zy ?_)))
  rw [show Zah kk l k = ([], 100) from if_neg (Zz5 (by omega))]
  exact Za2 [0, 1] (v := .tuple #[slv 1 0 0 0, Iv 100]) rfl (by kernel_rfl) rfl rfl (by decide) (by simp [Za8, rwR, dsB, Zk]) ⟨⟨rfl, rfl, rfl, by first | omega | exact Nat.le_refl _ | exact Nat.zero_le _ | (dsimp only; omega), by first | omega | exact Nat.le_refl _ | exact Nat.zero_le _ | (dsimp only; omega)⟩, rfl, trivial⟩
  refine Zo (vx := Iv (Zgn l)) (vy := Iv 0) rfl rfl (.bool false) rfl rfl (Zdb (by omega)) ?_
  refine Zd rfl rfl (.bool false) rfl (Zb (Zc (Zz rfl (Zg (Zj (Zf rfl rfl (Iv k) rfl (Zf rfl rfl (slv 0 0 n c) rfl ?_)))))))
  refine Zbl (p := slv 0 0 n c) (v := Iv (n : Nat)) rfl rfl rfl rfl ?_
  by_cases h2 : 0 ≤ k
  by_cases h3 : k ≤ (n : Nat)
  refine Zt ((Zgm (G := G) k 0 (n : Nat)).res (congrArg Value.bool (Zb7 (by omega) (by omega)))) (vals := [Iv k, Iv 0, Iv (n : Nat)]) (res' := .bool true) rfl rfl rfl rfl rfl rfl ?_
  refine Ziy (vx := .bool true) rfl rfl (.bool false) rfl Zer ?_
  refine Zd rfl rfl (.bool false) rfl (Zb (Zc (Zz rfl (Z5 (Z3 (Zc (Zg ?_)))))))
  obtain ⟨q, rfl⟩ : ∃ x0 : Nat, k = (x0 : Int) := ⟨k.toNat, by omega⟩
  refine Zj (Zf rfl rfl (slv 0 0 n c) rfl (Zf rfl rfl (Iv (q : Nat)) rfl ?_))
  refine Zch (p := slv 0 0 n c) (vl := none) (vh := some (Iv (q : Nat))) (v := slv 0 0 q c) rfl rfl rfl rfl rfl (Zfz (h := q) rfl rfl (by omega) (by omega) rfl) ?_
  refine Z4 (e := [some (0, 0)]) (nid := 1) (Zye (G := G) l q c (by have := hn; omega) (by omega) (by omega)) (vals := [slv 0 0 q c]) (v := .func (.func 76) #[] #[pt 1 0]) (H' := [rwR Zk l, rfB (slv 0 0 q c), hole]) rfl rfl rfl rfl rfl rfl rfl ⟨⟨⟨rfl, rfl, rfl, by omega, by omega⟩, trivial⟩, ⟨(Zc0 rfl), trivial⟩, rfl, rfl, rfl⟩ (by kernel_rfl) (by kernel_rfl) ?_
  refine Z4 (e := [some (0, 0), some (1, 0)]) (nid := 2) (Zvj (G := G) kk hG l q c (by have := hn; omega) (by omega) (by omega)) (vals := [.func (.func 76) #[] #[pt 1 0]]) (v := slv 2 0 q q) (H' := [rwR Zk l, rfB (slv 0 0 q c), dsB (acL kk l q)]) rfl rfl rfl rfl rfl rfl rfl ⟨⟨⟨by simp [Zhc, Zdn, Zjy, idE], by kernel_rfl⟩, trivial⟩, ⟨(Zc0 rfl), (Zax rfl rfl rfl rfl), trivial⟩, rfl, rfl, rfl⟩ (by kernel_rfl) (by kernel_rfl) ?_
  refine Zd rfl rfl (slv 2 0 q q) rfl (Zd rfl rfl (Iv 0) rfl (Zb (Zc (Zx (Zy ?_)))))
  rw [show Zah kk l ((q : Nat) : Int) = (acL kk l q, 0) from by unfold Zah; rw [if_pos (Zi3 (by omega)), if_pos (by omega)]; rfl]
  rw [show (acL kk l q, (0 : Int)).1.length = q from Zfh kk l q]
  exact Za2 [0, 2] (v := .tuple #[slv 2 0 q q, Iv 0]) rfl (by kernel_rfl) rfl rfl (by decide) (by simp [Za8, rwR, dsB, Zk]) ⟨⟨rfl, rfl, rfl, by first | omega | exact Nat.le_refl _ | exact Nat.zero_le _ | (dsimp only; omega), by first | omega | exact Nat.le_refl _ | exact Nat.zero_le _ | (dsimp only; omega)⟩, rfl, trivial⟩
  refine Zt ((Zgm (G := G) k 0 (n : Nat)).res (congrArg Value.bool (Zan (by omega)))) (vals := [Iv k, Iv 0, Iv (n : Nat)]) (res' := .bool false) rfl rfl rfl rfl rfl rfl ?_
  refine Ziy (vx := .bool false) rfl rfl (.bool true) rfl Zer ?_
  refine Zd rfl rfl (.bool true) rfl (Zb (Zc (Z0 rfl (Zg (Zj (Zd rfl rfl (.slice none 0 0) rfl (Zd rfl rfl (Iv 21) rfl (Zb (Zc ?_)))))))))
  refine Zby (Zbt.nilTmp (i := 4) (b := 1) true 32 rfl (by decide) rfl) ?_
  refine Zx (Zc1 (Zaa (Zy ?_)))
  rw [show Zah kk l k = ([], 21) from by unfold Zah; rw [if_pos (Zi3 (by omega)), if_neg (by omega)]]
  exact Za2 [0, 1] (v := .tuple #[slv 1 0 0 0, Iv 21]) rfl (by kernel_rfl) rfl rfl (by decide) (by simp [Za8, rwR, dsB, Zk]) ⟨⟨rfl, rfl, rfl, by first | omega | exact Nat.le_refl _ | exact Nat.zero_le _ | (dsimp only; omega), by first | omega | exact Nat.le_refl _ | exact Nat.zero_le _ | (dsimp only; omega)⟩, rfl, trivial⟩
  refine Zt ((Zgm (G := G) k 0 (n : Nat)).res (congrArg Value.bool (Zan (by omega)))) (vals := [Iv k, Iv 0, Iv (n : Nat)]) (res' := .bool false) rfl rfl rfl rfl rfl rfl ?_
  refine Ziy (vx := .bool false) rfl rfl (.bool true) rfl Zer ?_
  refine Zd rfl rfl (.bool true) rfl (Zb (Zc (Z0 rfl (Zg (Zj (Zd rfl rfl (.slice none 0 0) rfl (Zd rfl rfl (Iv 21) rfl (Zb (Zc ?_)))))))))
  refine Zby (Zbt.nilTmp (i := 4) (b := 1) true 32 rfl (by decide) rfl) ?_
  refine Zx (Zc1 (Zaa (Zy ?_)))
  rw [show Zah kk l k = ([], 21) from by unfold Zah; rw [if_pos (Zi3 (by omega)), if_neg (by omega)]]
  exact Za2 [0, 1] (v := .tuple #[slv 1 0 0 0, Iv 21]) rfl (by kernel_rfl) rfl rfl (by decide) (by simp [Za8, rwR, dsB, Zk]) ⟨⟨rfl, rfl, rfl, by first | omega | exact Nat.le_refl _ | exact Nat.zero_le _ | (dsimp only; omega), by first | omega | exact Nat.le_refl _ | exact Nat.zero_le _ | (dsimp only; omega)⟩, rfl, trivial⟩
theorem Ztj (kk : Nat → BitVec 32) (hG : G 0 = some (Zad w32 64 kk)) (hG1 : G 2 = some (Zad u8N 64 dbF)) (l : List Item) (n c : Nat) (hn : l.length = n) (hc : n ≤ c) (hb : n ≤ 1048576) (k : Int) : Zaf Tryd.prog G 21 [slv 0 0 n c, Iv k] [rwR Zk l] (.tuple #[dgV (Zae kk l k).1, Iv (Zae kk l k).2]) [rwR Zk l] := by
  refine Zbj (fn := Tryd.f21) (nt := 20) rfl rfl rfl rfl ?_
  refine Zai 2 (H' := [rwR Zk l, hole, hole]) rfl ?_
  refine Zg (Zj ?_)
  refine Z2 (b := dgB dz) (nid := 1) (H' := [rwR Zk l, dgB dz, hole]) rfl rfl (by kernel_rfl) (by kernel_rfl) ?_
  refine Zd rfl rfl (Iv 0) rfl (Zb (Zc (Zg (Zj (Zf rfl rfl (slv 0 0 n c) rfl (Zf rfl rfl (Iv k) rfl ?_))))))
  have hfl3 := Zpq kk l k
  refine Z4 (e := [some (0, 0)]) (nid := 2) (Zsx (G := G) kk hG l n c hn (by omega) (by omega) k) (vals := [slv 0 0 n c, Iv k]) (v := .tuple #[slv 2 0 ((Zah kk l k).1.length) ((Zah kk l k).1.length), Iv ((Zah kk l k).2)]) (H' := [rwR Zk l, dgB dz, dsB ((Zah kk l k).1)]) rfl rfl rfl rfl rfl rfl rfl ⟨⟨⟨rfl, rfl, rfl, by first | omega | exact Nat.le_refl _, by first | omega | exact Nat.le_refl _⟩, rfl, trivial⟩, ⟨(Zc0 rfl), trivial⟩, rfl, rfl, rfl⟩ (by kernel_rfl) (by kernel_rfl) ?_
  refine Zf rfl rfl (.tuple #[slv 2 0 ((Zah kk l k).1.length) ((Zah kk l k).1.length), Iv ((Zah kk l k).2)]) rfl (Zu (vs := #[slv 2 0 ((Zah kk l k).1.length) ((Zah kk l k).1.length), Iv ((Zah kk l k).2)]) (v := slv 2 0 ((Zah kk l k).1.length) ((Zah kk l k).1.length)) rfl rfl rfl rfl (Zu (vs := #[slv 2 0 ((Zah kk l k).1.length) ((Zah kk l k).1.length), Iv ((Zah kk l k).2)]) (v := Iv ((Zah kk l k).2)) rfl rfl rfl rfl (Zd rfl rfl (slv 2 0 ((Zah kk l k).1.length) ((Zah kk l k).1.length)) rfl (Zd rfl rfl (Iv ((Zah kk l k).2)) rfl (Zb (Zc (Zg (Zg (Zj (Zf rfl rfl (Iv ((Zah kk l k).2)) rfl ?_))))))))))
  by_cases h1 : ((Zah kk l k).2) ≠ 0
  refine Zo (vx := Iv ((Zah kk l k).2)) (vy := Iv 0) rfl rfl (.bool true) rfl rfl (Zdr (by omega)) ?_
  refine Zb (Zc (Z0 rfl (Zg (Zj ?_))))
  refine Za1 (vs := []) (v := dgV dz) rfl rfl rfl (by kernel_rfl) ?_
  refine Zf rfl rfl (Iv ((Zah kk l k).2)) rfl ?_
  refine Zw (p := pt 1 0) (v := dgV dz) (b := 1) (blk := dgB dz) (H' := [rwR Zk l, dgB dz, dsB ((Zah kk l k).1)]) rfl rfl rfl (by kernel_rfl) (by kernel_rfl) ?_
  refine Zd rfl rfl (Iv ((Zah kk l k).2)) rfl (Zb (Zc (Zx (Zaa (Zy ?_)))))
  rw [show Zae kk l k = (dz, (Zah kk l k).2) from if_neg (by omega)]
  exact Zq (v := .tuple #[dgV dz, Iv ((Zah kk l k).2)]) (by kernel_rfl) rfl rfl (by simp [Za8, rwR, Zk]) ⟨(Zcs (Zcg fun _ => rfl) rfl), rfl, trivial⟩
  refine Zo (vx := Iv ((Zah kk l k).2)) (vy := Iv 0) rfl rfl (.bool false) rfl rfl (Zdb (by omega)) ?_
  refine Zb (Zc (Zz rfl (Z5 (Zc (Zg (Zj (Zf rfl rfl (slv 2 0 ((Zah kk l k).1.length) ((Zah kk l k).1.length)) rfl ?_)))))))
  refine Z4 (e := [some (2, 0)]) (nid := 0) (Zzy (G := G) kk hG hG1 ((Zah kk l k).1) (c := ((Zah kk l k).1.length)) (n := ((Zah kk l k).1.length)) (rfl : _ = _) (by omega) (by omega) rfl) (vals := [slv 2 0 ((Zah kk l k).1.length) ((Zah kk l k).1.length)]) (v := dgV (Zb8 kk ((Zah kk l k).1))) (H' := [rwR Zk l, dgB dz, dsB ((Zah kk l k).1)]) rfl rfl rfl rfl rfl rfl rfl ⟨⟨⟨rfl, rfl, rfl, by first | omega | exact Nat.le_refl _, by first | omega | exact Nat.le_refl _⟩, trivial⟩, ⟨(Zd2 rfl), trivial⟩, rfl, rfl, rfl⟩ (by kernel_rfl) (by kernel_rfl) ?_
  refine Zw (p := pt 1 0) (v := dgV (Zb8 kk ((Zah kk l k).1))) (b := 1) (blk := dgB (Zb8 kk ((Zah kk l k).1))) (H' := [rwR Zk l, dgB (Zb8 kk ((Zah kk l k).1)), dsB ((Zah kk l k).1)]) rfl rfl rfl (by kernel_rfl) (by kernel_rfl) ?_
  refine Zd rfl rfl (Iv 0) rfl (Zb (Zc (Zx (Zy ?_))))
  rw [show Zae kk l k = (Zb8 kk (Zah kk l k).1, 0) from if_pos (by omega)]
  exact Zq (v := .tuple #[dgV (Zb8 kk ((Zah kk l k).1)), Iv 0]) (by kernel_rfl) rfl rfl (by simp [Za8, rwR, Zk]) ⟨(Zcs (Zcg fun _ => rfl) rfl), rfl, trivial⟩
theorem Zs3 (kk : Nat → BitVec 32) (hG : G 0 = some (Zad w32 64 kk)) (hG1 : G 2 = some (Zad u8N 64 dbF)) (l : List Item) (n c : Nat) (hn : l.length = n) (hc : n ≤ c) (hb : n ≤ 1048576) (k region epoch tick : Int) : Zaf Tryd.prog G 8 [slv 0 0 n c, Iv k, Iv region, Iv epoch, Iv tick] [rwR Zk l] (.tuple #[Zbn (Zab kk l k region epoch tick).1, Iv (Zab kk l k region epoch tick).2]) [rwR Zk l] := by
  refine Zbj (fn := Tryd.f8) (nt := 36) rfl rfl rfl rfl ?_
  refine Zai 3 (H' := [rwR Zk l, hole, hole, hole]) rfl ?_
  refine Zg (Zj ?_)
  refine Z2 (b := bxB 36 (Zbf (⟨0, 0, 0, dz, 0⟩ : Head))) (nid := 1) (H' := [rwR Zk l, bxB 36 (Zbf (⟨0, 0, 0, dz, 0⟩ : Head)), hole, hole]) rfl rfl (by kernel_rfl) (by kernel_rfl) ?_
  refine Zd rfl rfl (Iv 0) rfl (Zb (Zc (Zg (Zj (Zf rfl rfl (slv 0 0 n c) rfl (Zf rfl rfl (Iv k) rfl ?_))))))
  refine Z4 (e := [some (0, 0)]) (nid := 0) (Ztj (G := G) kk hG hG1 l n c hn (by omega) (by omega) k) (vals := [slv 0 0 n c, Iv k]) (v := .tuple #[dgV ((Zae kk l k).1), Iv ((Zae kk l k).2)]) (H' := [rwR Zk l, bxB 36 (Zbf (⟨0, 0, 0, dz, 0⟩ : Head)), hole, hole]) rfl rfl rfl rfl rfl rfl rfl ⟨⟨⟨rfl, rfl, rfl, by first | omega | exact Nat.le_refl _, by first | omega | exact Nat.le_refl _⟩, rfl, trivial⟩, ⟨(Zc0 rfl), trivial⟩, rfl, rfl, rfl⟩ (by kernel_rfl) (by kernel_rfl) ?_
  refine Zf rfl rfl (.tuple #[dgV ((Zae kk l k).1), Iv ((Zae kk l k).2)]) rfl (Zu (vs := #[dgV ((Zae kk l k).1), Iv ((Zae kk l k).2)]) (v := dgV ((Zae kk l k).1)) rfl rfl rfl rfl (Zu (vs := #[dgV ((Zae kk l k).1), Iv ((Zae kk l k).2)]) (v := Iv ((Zae kk l k).2)) rfl rfl rfl rfl ?_))
  refine Z2 (b := dgB dz) (nid := 2) (H' := [rwR Zk l, bxB 36 (Zbf (⟨0, 0, 0, dz, 0⟩ : Head)), dgB dz, hole]) rfl rfl (by kernel_rfl) (by kernel_rfl) ?_
  refine Zw (p := pt 2 0) (v := dgV ((Zae kk l k).1)) (b := 2) (blk := dgB ((Zae kk l k).1)) (H' := [rwR Zk l, bxB 36 (Zbf (⟨0, 0, 0, dz, 0⟩ : Head)), dgB ((Zae kk l k).1), hole]) rfl rfl rfl (by kernel_rfl) (by kernel_rfl) ?_
  refine Zd rfl rfl (Iv ((Zae kk l k).2)) rfl (Zb (Zc (Zg (Zg (Zj (Zf rfl rfl (Iv ((Zae kk l k).2)) rfl ?_))))))
  by_cases h1 : ((Zae kk l k).2) ≠ 0
  refine Zo (vx := Iv ((Zae kk l k).2)) (vy := Iv 0) rfl rfl (.bool true) rfl rfl (Zdr (by omega)) ?_
  refine Zb (Zc (Z0 rfl (Zg (Zj ?_))))
  refine Za1 (vs := []) (v := Zbn (⟨0, 0, 0, dz, 0⟩ : Head)) rfl rfl rfl (by kernel_rfl) ?_
  refine Zf rfl rfl (Iv ((Zae kk l k).2)) rfl ?_
  refine Zw (p := pt 1 0) (v := Zbn (⟨0, 0, 0, dz, 0⟩ : Head)) (b := 1) (blk := bxB 36 (Zbf (⟨0, 0, 0, dz, 0⟩ : Head))) (H' := [rwR Zk l, bxB 36 (Zbf (⟨0, 0, 0, dz, 0⟩ : Head)), dgB ((Zae kk l k).1), hole]) rfl rfl rfl (by kernel_rfl) (by kernel_rfl) ?_
  refine Zd rfl rfl (Iv ((Zae kk l k).2)) rfl (Zb (Zc (Zx (Zaa (Zy ?_)))))
  rw [show Zab kk l k region epoch tick = (⟨0, 0, 0, dz, 0⟩, (Zae kk l k).2) from by unfold Zab; rw [if_neg (by omega)]]
  exact Zq (v := .tuple #[Zbn (⟨0, 0, 0, dz, 0⟩ : Head), Iv ((Zae kk l k).2)]) (by kernel_rfl) rfl rfl (by simp [Za8, rwR, Zk]) ⟨(Zgo (by kernel_rfl) rfl), rfl, trivial⟩
  refine Zo (vx := Iv ((Zae kk l k).2)) (vy := Iv 0) rfl rfl (.bool false) rfl rfl (Zdb (by omega)) ?_
  refine Zb (Zc (Zz rfl (Z5 (Zc (Zg (Zj (Zf rfl rfl (Iv region) rfl (Zf rfl rfl (Iv epoch) rfl (Zf rfl rfl (Iv k) rfl ?_)))))))))
  refine Zp (p := pt 2 0) (v := dgV ((Zae kk l k).1)) rfl rfl rfl (by kernel_rfl) ?_
  refine Zf rfl rfl (Iv tick) rfl ?_
  refine Za1 (vs := [(0, Iv region), (1, Iv epoch), (2, Iv k), (3, dgV ((Zae kk l k).1)), (4, Iv tick)]) (v := Zbn (⟨region, epoch, k, (Zae kk l k).1, tick⟩ : Head)) rfl rfl rfl (by kernel_rfl) ?_
  refine Z2 (b := bxB 36 (Zbf (⟨0, 0, 0, dz, 0⟩ : Head))) (nid := 3) (H' := [rwR Zk l, bxB 36 (Zbf (⟨0, 0, 0, dz, 0⟩ : Head)), dgB ((Zae kk l k).1), bxB 36 (Zbf (⟨0, 0, 0, dz, 0⟩ : Head))]) rfl rfl (by kernel_rfl) (by kernel_rfl) ?_
  refine Zw (p := pt 3 0) (v := Zbn (⟨region, epoch, k, (Zae kk l k).1, tick⟩ : Head)) (b := 3) (blk := bxB 36 (Zbf (⟨region, epoch, k, (Zae kk l k).1, tick⟩ : Head))) (H' := [rwR Zk l, bxB 36 (Zbf (⟨0, 0, 0, dz, 0⟩ : Head)), dgB ((Zae kk l k).1), bxB 36 (Zbf (⟨region, epoch, k, (Zae kk l k).1, tick⟩ : Head))]) rfl rfl rfl (by kernel_rfl) (by kernel_rfl) ?_
  refine Zb (Zc (Zg (Zg (Zj ?_))))
  refine Zp (p := pt 3 0) (v := Zbn (⟨region, epoch, k, (Zae kk l k).1, tick⟩ : Head)) rfl rfl rfl (by kernel_rfl) ?_
  refine Zt (Zo3 (G := G) (⟨region, epoch, k, (Zae kk l k).1, tick⟩ : Head)) (vals := [Zbn (⟨region, epoch, k, (Zae kk l k).1, tick⟩ : Head)]) (res' := Iv (Za4 (⟨region, epoch, k, (Zae kk l k).1, tick⟩ : Head))) rfl rfl rfl rfl rfl rfl ?_
  by_cases h2 : (Za4 (⟨region, epoch, k, (Zae kk l k).1, tick⟩ : Head)) ≠ 0
  refine Zo (vx := Iv (Za4 (⟨region, epoch, k, (Zae kk l k).1, tick⟩ : Head))) (vy := Iv 0) rfl rfl (.bool true) rfl rfl (Zdr (by omega)) ?_
  refine Zb (Zc (Z0 rfl (Zg (Zj ?_))))
  refine Za1 (vs := []) (v := Zbn (⟨0, 0, 0, dz, 0⟩ : Head)) rfl rfl rfl (by kernel_rfl) ?_
  refine Zw (p := pt 1 0) (v := Zbn (⟨0, 0, 0, dz, 0⟩ : Head)) (b := 1) (blk := bxB 36 (Zbf (⟨0, 0, 0, dz, 0⟩ : Head))) (H' := [rwR Zk l, bxB 36 (Zbf (⟨0, 0, 0, dz, 0⟩ : Head)), dgB ((Zae kk l k).1), bxB 36 (Zbf (⟨region, epoch, k, (Zae kk l k).1, tick⟩ : Head))]) rfl rfl rfl (by kernel_rfl) (by kernel_rfl) ?_
  refine Zd rfl rfl (Iv 100) rfl (Zb (Zc (Zx (Zaa (Zy ?_)))))
  rw [show Zab kk l k region epoch tick = (⟨0, 0, 0, dz, 0⟩, 100) from by unfold Zab; rw [if_pos (by omega), if_neg (by omega)]]
  exact Zq (v := .tuple #[Zbn (⟨0, 0, 0, dz, 0⟩ : Head), Iv 100]) (by kernel_rfl) rfl rfl (by simp [Za8, rwR, Zk]) ⟨(Zgo (by kernel_rfl) rfl), rfl, trivial⟩
  refine Zo (vx := Iv (Za4 (⟨region, epoch, k, (Zae kk l k).1, tick⟩ : Head))) (vy := Iv 0) rfl rfl (.bool false) rfl rfl (Zdb (by omega)) ?_
  refine Zb (Zc (Zz rfl (Z5 (Zc (Zg (Zj ?_))))))
  refine Zp (p := pt 3 0) (v := Zbn (⟨region, epoch, k, (Zae kk l k).1, tick⟩ : Head)) rfl rfl rfl (by kernel_rfl) ?_
  refine Zw (p := pt 1 0) (v := Zbn (⟨region, epoch, k, (Zae kk l k).1, tick⟩ : Head)) (b := 1) (blk := bxB 36 (Zbf (⟨region, epoch, k, (Zae kk l k).1, tick⟩ : Head))) (H' := [rwR Zk l, bxB 36 (Zbf (⟨region, epoch, k, (Zae kk l k).1, tick⟩ : Head)), dgB ((Zae kk l k).1), bxB 36 (Zbf (⟨region, epoch, k, (Zae kk l k).1, tick⟩ : Head))]) rfl rfl rfl (by kernel_rfl) (by kernel_rfl) ?_
  refine Zd rfl rfl (Iv 0) rfl (Zb (Zc (Zx (Zy ?_))))
  rw [show Zab kk l k region epoch tick = ((⟨region, epoch, k, (Zae kk l k).1, tick⟩ : Head), 0) from by unfold Zab; rw [if_pos (by omega), if_pos (by omega)]]
  exact Zq (v := .tuple #[Zbn (⟨region, epoch, k, (Zae kk l k).1, tick⟩ : Head), Iv 0]) (by kernel_rfl) rfl rfl (by simp [Za8, rwR, Zk]) ⟨(Zgo (by kernel_rfl) rfl), rfl, trivial⟩
theorem Z00 (kk : Nat → BitVec 32) (hG : G 0 = some (Zad w32 64 kk)) (hG1 : G 2 = some (Zad u8N 64 dbF)) (l : List Item) (n c : Nat) (hn : l.length = n) (hc : n ≤ c) (hb : n ≤ 1048576) (k i : Int) : Zaf Tryd.prog G 28 [slv 0 0 n c, Iv k, Iv i] [rwR Zk l] (.tuple #[slv 1 0 (Zl kk l k i).1.length (Zl kk l k i).1.length, Iv (Zl kk l k i).2]) [rwR Zk l, dsB (Zl kk l k i).1] := by
  refine Zbj (fn := Tryd.f28) (nt := 24) rfl rfl rfl rfl ?_
  refine Zai 2 (H' := [rwR Zk l, hole, hole]) rfl ?_
  refine Zg (Zj (Zd rfl rfl (.slice none 0 0) rfl (Zd rfl rfl (Iv 0) rfl (Zb (Zc (Zg (Zj (Zf rfl rfl (slv 0 0 n c) rfl (Zf rfl rfl (Iv k) rfl ?_)))))))))
  have hfl4 := Zpq kk l k
  refine Z4 (e := [some (0, 0)]) (nid := 1) (Zsx (G := G) kk hG l n c hn (by omega) (by omega) k) (vals := [slv 0 0 n c, Iv k]) (v := .tuple #[slv 1 0 ((Zah kk l k).1.length) ((Zah kk l k).1.length), Iv ((Zah kk l k).2)]) (H' := [rwR Zk l, dsB ((Zah kk l k).1), hole]) rfl rfl rfl rfl rfl rfl rfl ⟨⟨⟨rfl, rfl, rfl, by first | omega | exact Nat.le_refl _, by first | omega | exact Nat.le_refl _⟩, rfl, trivial⟩, ⟨(Zc0 rfl), trivial⟩, rfl, rfl, rfl⟩ (by kernel_rfl) (by kernel_rfl) ?_
  refine Zf rfl rfl (.tuple #[slv 1 0 ((Zah kk l k).1.length) ((Zah kk l k).1.length), Iv ((Zah kk l k).2)]) rfl (Zu (vs := #[slv 1 0 ((Zah kk l k).1.length) ((Zah kk l k).1.length), Iv ((Zah kk l k).2)]) (v := slv 1 0 ((Zah kk l k).1.length) ((Zah kk l k).1.length)) rfl rfl rfl rfl (Zu (vs := #[slv 1 0 ((Zah kk l k).1.length) ((Zah kk l k).1.length), Iv ((Zah kk l k).2)]) (v := Iv ((Zah kk l k).2)) rfl rfl rfl rfl (Zd rfl rfl (slv 1 0 ((Zah kk l k).1.length) ((Zah kk l k).1.length)) rfl (Zd rfl rfl (Iv ((Zah kk l k).2)) rfl (Zb (Zc (Zg (Zg (Zj (Zf rfl rfl (Iv ((Zah kk l k).2)) rfl ?_))))))))))
  by_cases h1 : ((Zah kk l k).2) ≠ 0
  refine Zo (vx := Iv ((Zah kk l k).2)) (vy := Iv 0) rfl rfl (.bool true) rfl rfl (Zdr (by omega)) ?_
  refine Zb (Zc (Z0 rfl (Zg (Zj (Zf rfl rfl (Iv ((Zah kk l k).2)) rfl (Zd rfl rfl (.slice none 0 0) rfl (Zd rfl rfl (Iv ((Zah kk l k).2)) rfl (Zb (Zc ?_)))))))))
  refine Zby (Zbt.nilTmp (i := 6) (b := 2) true 32 rfl (by decide) rfl) ?_
  refine Zx (Zaa (Zy ?_))
  rw [show Zl kk l k i = ([], (Zah kk l k).2) from by unfold Zl; rw [if_neg (by omega)]]
  exact Za2 [0, 2] (v := .tuple #[slv 2 0 0 0, Iv ((Zah kk l k).2)]) rfl (by kernel_rfl) rfl rfl (by decide) (by simp [Za8, rwR, dsB, Zk]) ⟨⟨rfl, rfl, rfl, by first | omega | exact Nat.le_refl _ | exact Nat.zero_le _ | (dsimp only; omega), by first | omega | exact Nat.le_refl _ | exact Nat.zero_le _ | (dsimp only; omega)⟩, rfl, trivial⟩
  refine Zo (vx := Iv ((Zah kk l k).2)) (vy := Iv 0) rfl rfl (.bool false) rfl rfl (Zdb (by omega)) ?_
  refine Zb (Zc (Zz rfl (Z5 (Zc (Zg (Zj (Zf rfl rfl (slv 1 0 ((Zah kk l k).1.length) ((Zah kk l k).1.length)) rfl (Zf rfl rfl (Iv i) rfl ?_))))))))
  by_cases h2 : i < 0
  refine Z4 (e := [some (1, 0)]) (nid := 0) (Zq4 (G := G) ((Zah kk l k).1) ((Zah kk l k).1.length) ((Zah kk l k).1.length) i (rfl : _ = _) (by omega)) (vals := [slv 1 0 ((Zah kk l k).1.length) ((Zah kk l k).1.length), Iv i]) (v := .tuple #[.slice none 0 0, Iv 20]) (H' := [rwR Zk l, dsB ((Zah kk l k).1), hole]) rfl rfl rfl rfl rfl rfl rfl ⟨⟨⟨rfl, rfl, rfl, by first | omega | exact Nat.le_refl _, by first | omega | exact Nat.le_refl _⟩, rfl, trivial⟩, ⟨(Zd2 rfl), trivial⟩, rfl, rfl, rfl⟩ (by kernel_rfl) (by kernel_rfl) ?_
  refine Zu (vs := #[.slice none 0 0, Iv 20]) (v := .slice none 0 0) rfl rfl rfl rfl (Zu (vs := #[.slice none 0 0, Iv 20]) (v := Iv 20) rfl rfl rfl rfl (Zd rfl rfl (.slice none 0 0) rfl (Zd rfl rfl (Iv 20) rfl (Zb (Zc ?_)))))
  refine Zby (Zbt.nilTmp (i := 6) (b := 2) true 32 rfl (by decide) rfl) ?_
  refine Zx (Zy ?_)
  rw [show Zl kk l k i = ([], 20) from by unfold Zl; rw [if_pos (by omega), if_neg (by omega)]]
  exact Za2 [0, 2] (v := .tuple #[slv 2 0 0 0, Iv 20]) rfl (by kernel_rfl) rfl rfl (by decide) (by simp [Za8, rwR, dsB, Zk]) ⟨⟨rfl, rfl, rfl, by first | omega | exact Nat.le_refl _ | exact Nat.zero_le _ | (dsimp only; omega), by first | omega | exact Nat.le_refl _ | exact Nat.zero_le _ | (dsimp only; omega)⟩, rfl, trivial⟩
  by_cases h3 : i < ((((Zah kk l k).1.length) : Nat) : Int)
  refine Z4 (e := [some (1, 0)]) (nid := 2) (Z18 (G := G) kk hG hG1 ((Zah kk l k).1) ((Zah kk l k).1.length) i.toNat (n := ((Zah kk l k).1.length)) (rfl : _ = _) (by omega) (by omega) (by omega) rfl) (vals := [slv 1 0 ((Zah kk l k).1.length) ((Zah kk l k).1.length), Iv i]) (v := .tuple #[slv 2 0 ((Zc8 kk ((Zah kk l k).1) i.toNat).length) ((Zc8 kk ((Zah kk l k).1) i.toNat).length), Iv 0]) (H' := [rwR Zk l, dsB ((Zah kk l k).1), dsB (Zc8 kk ((Zah kk l k).1) i.toNat)]) rfl rfl rfl rfl rfl rfl rfl ⟨⟨⟨rfl, rfl, rfl, by first | omega | exact Nat.le_refl _, by first | omega | exact Nat.le_refl _⟩, (congrArg (Value.int .i64) (by omega)), trivial⟩, ⟨(Zd2 rfl), trivial⟩, rfl, rfl, rfl⟩ (by kernel_rfl) (by kernel_rfl) ?_
  refine Zu (vs := #[slv 2 0 ((Zc8 kk ((Zah kk l k).1) i.toNat).length) ((Zc8 kk ((Zah kk l k).1) i.toNat).length), Iv 0]) (v := slv 2 0 ((Zc8 kk ((Zah kk l k).1) i.toNat).length) ((Zc8 kk ((Zah kk l k).1) i.toNat).length)) rfl rfl rfl rfl (Zu (vs := #[slv 2 0 ((Zc8 kk ((Zah kk l k).1) i.toNat).length) ((Zc8 kk ((Zah kk l k).1) i.toNat).length), Iv 0]) (v := Iv 0) rfl rfl rfl rfl (Zd rfl rfl (slv 2 0 ((Zc8 kk ((Zah kk l k).1) i.toNat).length) ((Zc8 kk ((Zah kk l k).1) i.toNat).length)) rfl (Zd rfl rfl (Iv 0) rfl (Zb (Zc (Zx (Zy ?_)))))))
  rw [show Zl kk l k i = (Zc8 kk (Zah kk l k).1 i.toNat, 0) from by unfold Zl; rw [if_pos (by omega), if_pos (by omega)]]
  exact Za2 [0, 2] (v := .tuple #[slv 2 0 ((Zc8 kk ((Zah kk l k).1) i.toNat).length) ((Zc8 kk ((Zah kk l k).1) i.toNat).length), Iv 0]) rfl (by kernel_rfl) rfl rfl (by decide) (by simp [Za8, rwR, dsB, Zk]) ⟨⟨rfl, rfl, rfl, by first | omega | exact Nat.le_refl _ | exact Nat.zero_le _ | (dsimp only; omega), by first | omega | exact Nat.le_refl _ | exact Nat.zero_le _ | (dsimp only; omega)⟩, rfl, trivial⟩
  refine Z4 (e := [some (1, 0)]) (nid := 0) (Zq4 (G := G) ((Zah kk l k).1) ((Zah kk l k).1.length) ((Zah kk l k).1.length) i (rfl : _ = _) (by omega)) (vals := [slv 1 0 ((Zah kk l k).1.length) ((Zah kk l k).1.length), Iv i]) (v := .tuple #[.slice none 0 0, Iv 20]) (H' := [rwR Zk l, dsB ((Zah kk l k).1), hole]) rfl rfl rfl rfl rfl rfl rfl ⟨⟨⟨rfl, rfl, rfl, by first | omega | exact Nat.le_refl _, by first | omega | exact Nat.le_refl _⟩, rfl, trivial⟩, ⟨(Zd2 rfl), trivial⟩, rfl, rfl, rfl⟩ (by kernel_rfl) (by kernel_rfl) ?_
  refine Zu (vs := #[.slice none 0 0, Iv 20]) (v := .slice none 0 0) rfl rfl rfl rfl (Zu (vs := #[.slice none 0 0, Iv 20]) (v := Iv 20) rfl rfl rfl rfl (Zd rfl rfl (.slice none 0 0) rfl (Zd rfl rfl (Iv 20) rfl (Zb (Zc ?_)))))
  refine Zby (Zbt.nilTmp (i := 6) (b := 2) true 32 rfl (by decide) rfl) ?_
  refine Zx (Zy ?_)
  rw [show Zl kk l k i = ([], 20) from by unfold Zl; rw [if_pos (by omega), if_neg (by omega)]]
  exact Za2 [0, 2] (v := .tuple #[slv 2 0 0 0, Iv 20]) rfl (by kernel_rfl) rfl rfl (by decide) (by simp [Za8, rwR, dsB, Zk]) ⟨⟨rfl, rfl, rfl, by first | omega | exact Nat.le_refl _ | exact Nat.zero_le _ | (dsimp only; omega), by first | omega | exact Nat.le_refl _ | exact Nat.zero_le _ | (dsimp only; omega)⟩, rfl, trivial⟩
end Go.Flat
namespace Go.Flat

abbrev Stp := D × Bool
def Zif (size index : Nat) (ds : List D) : Option (List Stp) :=
  if h : size ≤ 1 then (if ds.length = 0 then some [] else none)
  else if ds.length = 0 then none
  else if index < Zap size then (Zif (Zap size) index (ds.take (ds.length - 1))).map fun l => (ds.getD (ds.length - 1) d0, false) :: l
  else (Zif (size - Zap size) (index - Zap size) (ds.take (ds.length - 1))).map fun l => (ds.getD (ds.length - 1) d0, true) :: l
termination_by size
decreasing_by
  · exact (Zfk (n := size) (by omega)).2
  · have := Zfk (n := size) (by omega); omega
theorem Zj6 {size : Nat} (index : Nat) (ds : List D) (h : size ≤ 1) : Zif size index ds = if ds.length = 0 then some [] else none := by
 rw [Zif, dif_pos h]
theorem Zu3 {size : Nat} (index : Nat) {ds : List D} (h : 2 ≤ size) (h0 : ds.length = 0) : Zif size index ds = none := by
 rw [Zif, dif_neg (by omega), if_pos h0]
theorem Zoj {size index : Nat} {ds : List D} (h : 2 ≤ size) (h0 : 0 < ds.length) (hi : index < Zap size) : Zif size index ds = (Zif (Zap size) index (ds.take (ds.length - 1))).map fun l => (ds.getD (ds.length - 1) d0, false) :: l := by
 rw [Zif, dif_neg (by omega), if_neg (by omega), if_pos hi]
theorem Zoh {size index : Nat} {ds : List D} (h : 2 ≤ size) (h0 : 0 < ds.length) (hi : Zap size ≤ index) : Zif size index ds = (Zif (size - Zap size) (index - Zap size) (ds.take (ds.length - 1))).map fun l => (ds.getD (ds.length - 1) d0, true) :: l := by
 rw [Zif, dif_neg (by omega), if_neg (by omega), if_neg (by omega)]
theorem Zpv : ∀ (t : Nat) (size index : Nat) (ds : List D) (l : List Stp), size ≤ 2 ^ t → Zif size index ds = some l → l.length = ds.length ∧ ds.length ≤ t
  | 0, size, index, ds, l, h, hw => by
    rw [Zj6 index ds (by simpa using h)] at hw
    split at hw
    · rename_i h0
      injection hw with hw; subst hw
      exact ⟨h0.symm, by omega⟩
    · cases hw
  | t + 1, size, index, ds, l, h, hw => by
    by_cases h2 : 2 ≤ size
    · rcases Nat.eq_zero_or_pos ds.length with h0 | h0
      · rw [Zu3 index h2 h0] at hw; cases hw
      · have e := Znd h2
        have h1 := Nat.log2_self_le (n := size - 1) (by omega)
        have h3 := Nat.lt_log2_self (n := size - 1)
        rw [Nat.pow_succ, ← e] at h3
        rw [← e] at h1
        have hk : Zap size ≤ 2 ^ t := by
          rw [e]
          refine Nat.pow_le_pow_right (by decide) ?_
          have : 2 ^ (size - 1).log2 < 2 ^ (t + 1) := by rw [← e]; omega
          have := (Nat.pow_lt_pow_iff_right (a := 2) (by decide)).1 this
          omega
        by_cases hi : index < Zap size
        · rw [Zoj h2 h0 hi] at hw
          obtain ⟨l', h4, rfl⟩ := Option.map_eq_some_iff.1 hw
          have := Zpv t _ _ _ _ hk h4
          simp at this ⊢
          omega
        · rw [Zoh h2 h0 (by omega)] at hw
          obtain ⟨l', h4, rfl⟩ := Option.map_eq_some_iff.1 hw
          have := Zpv t _ _ _ _ (by omega) h4
          simp at this ⊢
          omega
    · rw [Zj6 index ds (by omega)] at hw
      split at hw
      · rename_i h0
        injection hw with hw; subst hw
        exact ⟨h0.symm, by omega⟩
      · cases hw
def knA (kk : Nat → BitVec 32) (leaf : D) : List Stp → List D
  | [] => [leaf]
  | (b, r) :: t => (if r then Zgi kk b ((knA kk leaf t).getD 0 d0) else Zgi kk ((knA kk leaf t).getD 0 d0) b) :: knA kk leaf t
theorem Zw1 (kk : Nat → BitVec 32) (leaf : D) : ∀ l, (knA kk leaf l).length = l.length + 1
 | [] => rfl
 | (b, r) :: t => by simp [knA, Zw1 kk leaf t]
def tx (a b : D) : ByteArray := Zqo ++ Zr (dgL a) ++ Zr (dgL b)
def knT (kk : Nat → BitVec 32) (leaf : D) : List Stp → List ByteArray
  | [] => []
  | (b, r) :: t => (if r then tx b ((knA kk leaf t).getD 0 d0) else tx ((knA kk leaf t).getD 0 d0) b) :: knT kk leaf t

def Zfe (l : List Stp) : List Value := (l.map fun p => Zad w8 32 p.1 ++ [Value.bool p.2]).flatten
def Zcx (l : List Stp) : Blk := { cells := Zfe l, sz := 33, wr := true, fix := false, mv := true, pur := true }
def Zjp (l : List Stp) : Blk := { cells := Zfe l, sz := 33, wr := false, fix := false, mv := true, pur := true }
theorem Zmn (l : List Stp) : (Zfe l).length = l.length * 33 := by
 induction l with
 | nil => rfl
 | cons p l ih => simp only [Zfe, List.map_cons, List.flatten_cons, List.length_append, Zbr, List.length_cons, List.length_nil] at ih ⊢; omega
theorem Zs9 (p q : List Stp) : Zfe (p ++ q) = Zfe p ++ Zfe q := by simp [Zfe]
theorem Zyc (l : List Stp) : (Zfe l).all Zbk = true := by
 induction l with
 | nil => rfl
 | cons p l ih =>
  have : Zfe (p :: l) = Zad w8 32 p.1 ++ [Value.bool p.2] ++ Zfe l := by simp [Zfe]
  rw [this, List.all_append, List.all_append, Zqz, ih]; rfl
end Go.Flat
