/- Walks. -/
import Derived.Test.YtfjkagjbanhdlaaDoorP2
import Derived.Test.YtfjkagjbanhdlaaDoorFlatH
import Derived.Test.YtfjkagjbanhdlaaDoorRef
import Derived.Test.YtfjkagjbanhdlaaDoorFlatG
import Derived.Test.YtfjkagjbanhdlaaDoorFlatE
set_option linter.unusedVariables false
set_option linter.unusedSimpArgs false
set_option maxRecDepth 20000
namespace Go.Flat
open Go.Proofs
variable {G : Glob}
def cDg : Cod D := ⟨fun d => Z6 w8 32 d, 32, fun _ => rfl, by decide⟩
def acL (kk : Nat → BitVec 32) (l : List Item) : Nat → List D
  | 0 => []
  | k + 1 => acL kk l k ++ [(Zap kk (l.getD k default)).1]
theorem Zfk (kk : Nat → BitVec 32) (l : List Item) : ∀ k, (acL kk l k).length = k
 | 0 => rfl
 | k + 1 => by rw [acL, List.length_append, Zfk kk l k]; rfl
theorem Zzo (l : List Item) (m c : Nat) (hm : m ≤ l.length) (hc : m ≤ c) (hb : m ≤ 1048576) : Z9 Tryd.prog G 61 [slv 0 0 m c] [rwR Zx l] (.func (.func 76) #[] #[pt 1 0]) [rwR Zx l, rfB (slv 0 0 m c)] := by
 refine Zbu (fn := Tryd.f61) (nt := 4) rfl rfl rfl rfl ?_
 refine Zaj 1 (H' := [rwR Zx l, hole]) rfl ?_
 refine Ze (Zf (Zci (v := slv 0 0 m c) (b := rfB (slv 0 0 m c)) (nid := 1) (H' := [rwR Zx l, rfB (slv 0 0 m c)]) (Zb .nilFunc (Za (Zc (Ze (Zf ?_)))))))
 refine Zn6 (vs := []) (ws := [pt 1 0]) rfl rfl rfl rfl rfl ?_
 refine Zb (.func (.func 76) #[] #[pt 1 0]) (Za (Zc (Zs (Zu ?_))))
 exact Zbb [0, 1] (v := .func (.func 76) #[] #[pt 1 0]) rfl (by kernel_rfl) rfl rfl (by decide) (by simp [Zbe, rwR, rfB, Zlu, Zfz, Zx]) ⟨by simp [Zfv, Zdn, Zjz, idE], by kernel_rfl⟩
theorem Zun (kk : Nat → BitVec 32) (hG : G 0 = some (Z6 w32 64 kk)) (l : List Item) (m c : Nat) (hm : m ≤ l.length) (hc : m ≤ c) (hb : m ≤ 1048576) : Z0m Tryd.prog G 76 [pt 1 0] m (fun k => [dgV ((Zap kk (l.getD k default)).1)]) [rwR Zx l, rfB (slv 0 0 m c), rfB (slv 3 0 0 0), dsB (acL kk l 0)] (fun k => [rwR Zx l, rfB (slv 0 0 m c), rfB (slv 3 0 k k), dsB (acL kk l k), bxB 110 (Zr (l.getD k default)), dgB ((Zap kk (l.getD k default)).1)]) (fun k => [rwR Zx l, rfB (slv 0 0 m c), rfB (slv 3 0 (k + 1) (k + 1)), dsB (acL kk l (k + 1)), bxB 110 (Zr (l.getD k default)), dgB ((Zap kk (l.getD k default)).1)]) (fun _ => True) [rwR Zx l, rfB (slv 0 0 m c), rfB (slv 3 0 m m), dsB (acL kk l m)] := by
 refine Zwv (fn := Tryd.f76) rfl rfl (nt := 23) rfl rfl rfl ?_
 intro E l' Stop hE hd hY
 refine Zj5 ?_
 refine Zpl (by kernel_rfl) ?_
 refine Zal (p := pt 1 0) (v := slv 0 0 m c) rfl rfl rfl rfl ?_
 refine Zc3 (p := slv 0 0 m c) (v := Iv (m : Nat)) (Zd (Iv 0) (Za (Zas (Zt0 ?_))))
 refine Z3w hE (fun k : Nat => [.func (.yield l') #[] #[], pt 1 0, dead, dead, dead, dead, dead, slv 0 0 m c, Iv (m : Nat), Iv (k : Nat)]) (fun k : Nat => [rwR Zx l, rfB (slv 0 0 m c), rfB (slv 3 0 k k), dsB (acL kk l k)]) (fun k : Nat => k ≤ m) (fun k : Nat => m - k) 0 (Nat.zero_le _) ?_ ?_
 ·refine Zam (n := 4) rfl ?_ (by kernel_rfl) (by kernel_rfl)
  repeat (first | exact trivial | refine ⟨.inl rfl, ?_⟩ | refine ⟨.inr ⟨rfl, rfl⟩, ?_⟩ | refine ⟨.inr ⟨congrArg (Value.int .i64) (by first | omega | (dsimp only; omega)), rfl⟩, ?_⟩)
 rintro k hk
 refine Z3v hE 2 (H' := [rwR Zx l, rfB (slv 0 0 m c), rfB (slv 3 0 k k), dsB (acL kk l k), hole, hole]) rfl ?_
 have hks : ∀ j, j < k → True := fun _ _ => trivial
 refine Zj5 ?_
 refine Zpl (by kernel_rfl) ?_
 by_cases h1 : (k : Nat) < (m : Nat)
 refine Zj (vx := Iv (k : Nat)) (vy := Iv (m : Nat)) rfl rfl (.bool true) rfl rfl (Zdd (by omega)) ?_
 refine Za (Zas (Zj5 (Z3x rfl (Zyd (Zas (Zj5 (Zt0 (Zj5 ?_))))))))
 refine Zpl (by kernel_rfl) ?_
 refine Zbs (b := 0) (o := 0) (j := k * 110) (m := m) (c := c) (sz := 110) (i := (k : Nat)) (k := .i64) rfl rfl rfl rfl rfl (by omega) (by omega) (by omega) ?_
 refine Zal (p := pt 0 (k * 110)) (v := Zbq (l.getD k default)) rfl rfl rfl (Zmn (n := 0) (m := 110) Zx rfl rfl rfl rfl (by omega) (by omega)) ?_
 refine Zai (b := bxB 110 (Zr (⟨0, (⟨0, 0, 0, ⟨#[]⟩, (⟨(⟨0, 0, 0, dz, 0⟩ : Head), 0, dz⟩ : Signed), (⟨0, 0, 0, 0, dz⟩ : Claim)⟩ : Entry)⟩ : Item))) (nid := 4) (H' := [rwR Zx l, rfB (slv 0 0 m c), rfB (slv 3 0 k k), dsB (acL kk l k), bxB 110 (Zr (⟨0, (⟨0, 0, 0, ⟨#[]⟩, (⟨(⟨0, 0, 0, dz, 0⟩ : Head), 0, dz⟩ : Signed), (⟨0, 0, 0, 0, dz⟩ : Claim)⟩ : Entry)⟩ : Item)), hole]) (Z2 (p := pt 4 0) (v := Zbq (l.getD k default)) (b := 4) (blk := bxB 110 (Zr (l.getD k default))) (H' := [rwR Zx l, rfB (slv 0 0 m c), rfB (slv 3 0 k k), dsB (acL kk l k), bxB 110 (Zr (l.getD k default)), hole]) (Za (Zas (Zj5 ?_))))
 refine Zpl (by kernel_rfl) ?_
 refine Zn (p := pt 4 0) (v := Zbq (l.getD k default)) ?_
 refine Zp (Zxt (G := G) kk hG (l.getD k default)) (vals := [Zbq (l.getD k default)]) (res' := .tuple #[dgV ((Zap kk (l.getD k default)).1), Iv ((Zap kk (l.getD k default)).2)]) rfl rfl rfl rfl rfl (by kernel_rfl) ?_
 refine Zd (.tuple #[dgV ((Zap kk (l.getD k default)).1), Iv ((Zap kk (l.getD k default)).2)]) (Zq (vs := #[dgV ((Zap kk (l.getD k default)).1), Iv ((Zap kk (l.getD k default)).2)]) (v := dgV ((Zap kk (l.getD k default)).1)) (Zq (vs := #[dgV ((Zap kk (l.getD k default)).1), Iv ((Zap kk (l.getD k default)).2)]) (v := Iv ((Zap kk (l.getD k default)).2)) (Zai (b := dgB dz) (nid := 5) (H' := [rwR Zx l, rfB (slv 0 0 m c), rfB (slv 3 0 k k), dsB (acL kk l k), bxB 110 (Zr (l.getD k default)), dgB dz]) (Z2 (p := pt 5 0) (v := dgV ((Zap kk (l.getD k default)).1)) (b := 5) (blk := dgB ((Zap kk (l.getD k default)).1)) (H' := [rwR Zx l, rfB (slv 0 0 m c), rfB (slv 3 0 k k), dsB (acL kk l k), bxB 110 (Zr (l.getD k default)), dgB ((Zap kk (l.getD k default)).1)]) (Zb (Iv ((Zap kk (l.getD k default)).2)) (Za (Zas (Zj5 ?_))))))))
 refine Z07 (fun w' h => ⟨w', h, rfl⟩) 2 rfl rfl rfl (by kernel_rfl) ?_
 refine Zd (.func (.yield l') #[] #[]) (Zn (p := pt 5 0) (v := dgV ((Zap kk (l.getD k default)).1)) ?_)
 refine Zkj ?_
 show Zxw _ _ _ _ _ _ _ _ _ _ _ _ _
 unfold Zxw
 refine ⟨l', [dgV ((Zap kk (l.getD k default)).1)], [rwR Zx l, rfB (slv 0 0 m c), rfB (slv 3 0 (k + 1) (k + 1)), dsB (acL kk l (k + 1)), bxB 110 (Zr (l.getD k default)), dgB ((Zap kk (l.getD k default)).1)], True, rfl, rfl, by decide, hY k (by omega) hks, fun hok => ?_, ?_⟩
 refine Zi1 (vx := .bool true) rfl rfl (.bool false) rfl Zeu ?_
 refine Za (Zas (Zt1 rfl (Zyd (Zz (Zas ?_)))))
 refine Zpl (by kernel_rfl) ?_
 refine Zj (vx := Iv (k : Nat)) (vy := Iv 1) rfl rfl (Iv ((k : Nat) + 1)) rfl rfl (Za0 (by omega) (by omega) (by omega)) ?_
 refine Zd (Iv ((k : Nat) + 1)) (Za ?_)
 refine Zas ⟨(k + 1), (show k + 1 ≤ m by omega), by show m - (k + 1) < m - k; omega, ?_⟩
 refine Zam (n := 4) rfl ?_ (by kernel_rfl) (by kernel_rfl)
 repeat (first | exact trivial | refine ⟨.inl rfl, ?_⟩ | refine ⟨.inr ⟨rfl, rfl⟩, ?_⟩ | refine ⟨.inr ⟨congrArg (Value.int .i64) (by first | omega | (dsimp only; omega)), rfl⟩, ?_⟩)
 refine Zi1 (vx := .bool false) rfl rfl (.bool true) rfl Zeu ?_
 refine Za (Zas (Z3t rfl (Z06 (Zct (Zen (Zen (Zct ?_)))))))
 exact ⟨.inr rfl⟩
 refine Zj (vx := Iv (k : Nat)) (vy := Iv (m : Nat)) rfl rfl (.bool false) rfl rfl (Zcw (by omega)) ?_
 refine Za (Zas (Zj5 (Zt1 rfl (Z3u (Za3 (Za3 (Zay rfl ?_)))))))
 obtain rfl : k = m := by omega
 exact ⟨⟨.inl rfl, fun _ _ => trivial, _, Zam (l := []) (n := 4) rfl trivial (by kernel_rfl) (by kernel_rfl)⟩⟩
theorem Zy7 (kk : Nat → BitVec 32) (hG : G 0 = some (Z6 w32 64 kk)) (l : List Item) (m c : Nat) (hm : m ≤ l.length) (hc : m ≤ c) (hb : m ≤ 1048576) : Z9 Tryd.prog G 75 [.slice none 0 0, .func (.func 76) #[] #[pt 1 0]] [rwR Zx l, rfB (slv 0 0 m c)] (slv 2 0 m m) [rwR Zx l, rfB (slv 0 0 m c), dsB (acL kk l m)] := by
  refine Z9.introM (fn := Tryd.f75) rfl rfl (nt := 13) rfl rfl ?_
  refine Zwf (Z04 ?_)
  refine Zyb 2 (H' := [rwR Zx l, rfB (slv 0 0 m c), hole, hole]) rfl ?_
  refine Zpk (by kernel_rfl) ?_
  refine Zci (v := .slice none 0 0) (b := rfB (.slice none 0 0)) (nid := 2) (H' := [rwR Zx l, rfB (slv 0 0 m c), rfB (.slice none 0 0), hole]) (Zb (.slice none 0 0) (Za (Zas (Zwf (Zwf (Z04 ?_))))))
  refine Zyc (Zbo.nilCell (k := 2) (j := 0) (b := 3) true 32 rfl (by decide) rfl (by show 0 < 1; decide) rfl rfl) ?_
  refine Zpk (by kernel_rfl) ?_
  refine Zd (.func (.func 76) #[] #[pt 1 0]) (Za (Zas ?_))
  have hiter := Zun (G := G) kk hG l m c hm hc hb
  refine Z03 (lbs := #[pt 1 0]) (iter := hiter) rfl rfl rfl (by intro _ _; rfl) (by kernel_rfl) ?_ ?_
  · intro lp k hk hks
    refine Zyb 2 (H' := [rwR Zx l, rfB (slv 0 0 m c), rfB (slv 3 0 k k), dsB (acL kk l k), bxB 110 (Zr (l.getD k default)), dgB ((Zap kk (l.getD k default)).1), hole, hole]) rfl ?_
    refine Zpk (by kernel_rfl) ?_
    refine Zai (b := dgB dz) (nid := 6) (H' := [rwR Zx l, rfB (slv 0 0 m c), rfB (slv 3 0 k k), dsB (acL kk l k), bxB 110 (Zr (l.getD k default)), dgB ((Zap kk (l.getD k default)).1), dgB dz, hole]) (Z2 (p := pt 6 0) (v := dgV ((Zap kk (l.getD k default)).1)) (b := 6) (blk := dgB ((Zap kk (l.getD k default)).1)) (H' := [rwR Zx l, rfB (slv 0 0 m c), rfB (slv 3 0 k k), dsB (acL kk l k), bxB 110 (Zr (l.getD k default)), dgB ((Zap kk (l.getD k default)).1), dgB ((Zap kk (l.getD k default)).1), hole]) (Za (Zas (Z05 ?_))))
    refine Zpk (by kernel_rfl) ?_
    refine Zal (p := pt 2 0) (v := slv 3 0 k k) rfl rfl rfl rfl ?_
    refine Zn (p := pt 6 0) (v := dgV ((Zap kk (l.getD k default)).1)) ?_
    refine Zel (vs := [(0, dgV ((Zap kk (l.getD k default)).1))]) (v := slv 7 0 1 1) (blk := dsB [(Zap kk (l.getD k default)).1]) (nid := 7) (H' := [rwR Zx l, rfB (slv 0 0 m c), rfB (slv 3 0 k k), dsB (acL kk l k), bxB 110 (Zr (l.getD k default)), dgB ((Zap kk (l.getD k default)).1), dgB ((Zap kk (l.getD k default)).1), dsB [(Zap kk (l.getD k default)).1]]) rfl rfl rfl (by kernel_rfl) (by kernel_rfl) ?_
    have hl1 : ((acL kk l k) ++ [(Zap kk (l.getD k default)).1]).length = k + 1 := by have := (Zfk kk l k); have := (rfl : _ = 1); first | (rw [List.length_append]; omega) | (rw [List.length_append, List.length_take]; omega) | (simp; omega) | simp
    refine Zc9 (p := slv 3 0 k k) (q := slv 7 0 1 1) (v := slv 3 0 (k + 1) (k + 1)) (b := 3) (blk := dsB ((acL kk l k) ++ [(Zap kk (l.getD k default)).1])) (H' := [rwR Zx l, rfB (slv 0 0 m c), rfB (dead), dsB ((acL kk l k) ++ [(Zap kk (l.getD k default)).1]), bxB 110 (Zr (l.getD k default)), dgB ((Zap kk (l.getD k default)).1), dgB ((Zap kk (l.getD k default)).1), dsB [(Zap kk (l.getD k default)).1]]) rfl rfl rfl (.inl ⟨_, rfl⟩) rfl rfl (Zsf cDg (by_ := 32) (k := 1) (n' := k + 1) (ms := [(Zap kk (l.getD k default)).1]) (fun _ => rfl) rfl rfl (by kernel_rfl) rfl rfl (by have := (Zfk kk l k); omega) (by omega) (by decide) (by omega)) rfl (by kernel_rfl) ?_
    refine Z2 (p := pt 2 0) (v := slv 3 0 (k + 1) (k + 1)) (b := 2) (blk := rfB (slv 3 0 (k + 1) (k + 1))) (H' := [rwR Zx l, rfB (slv 0 0 m c), rfB (slv 3 0 (k + 1) (k + 1)), dsB ((acL kk l k) ++ [(Zap kk (l.getD k default)).1]), bxB 110 (Zr (l.getD k default)), dgB ((Zap kk (l.getD k default)).1), dgB ((Zap kk (l.getD k default)).1), dsB [(Zap kk (l.getD k default)).1]]) (Za (Zz ?_))
    exact ⟨⟨trivial, _, Zam (l := []) (n := 6) rfl trivial (by kernel_rfl) (by kernel_rfl)⟩⟩
  intro hall
  show CW none _ _ _ _ _ _ _
  refine Z5z ?_
  refine Zpk (by kernel_rfl) ?_
  refine Zal (p := pt 2 0) (v := slv 3 0 m m) rfl rfl rfl rfl ?_
  refine Zb (slv 3 0 m m) (Za (Zas (Z06 (Zen (Zu ?_)))))
  exact Zbb [0, 1, 3] (v := slv 3 0 m m) rfl (by kernel_rfl) rfl rfl (by decide) (by simp [Zbe, rwR, rfB, dsB, Zlu, Zfz, Zx]) ⟨rfl, rfl, rfl, by first | omega | exact Nat.le_refl _ | exact Nat.zero_le _ | (dsimp only; omega), by first | omega | exact Nat.le_refl _ | exact Nat.zero_le _ | (dsimp only; omega)⟩
theorem Zwg (kk : Nat → BitVec 32) (hG : G 0 = some (Z6 w32 64 kk)) (l : List Item) (m c : Nat) (hm : m ≤ l.length) (hc : m ≤ c) (hb : m ≤ 1048576) : Z9 Tryd.prog G 60 [.func (.func 76) #[] #[pt 1 0]] [rwR Zx l, rfB (slv 0 0 m c)] (slv 2 0 m m) [rwR Zx l, rfB (slv 0 0 m c), dsB (acL kk l m)] := by
  refine Zbu (fn := Tryd.f60) (nt := 5) rfl rfl rfl rfl ?_
  refine Zaj 1 (H' := [rwR Zx l, rfB (slv 0 0 m c), hole]) rfl ?_
  refine Ze (Zf (Zb (.slice none 0 0) (Za (Zc (Ze (Zf (Zd (.func (.func 76) #[] #[pt 1 0]) ?_)))))))
  refine Zab (e := [some (0, 0), some (1, 0)]) (nid := 2) (Zy7 (G := G) kk hG l m c hm hc hb) (vals := [.slice none 0 0, .func (.func 76) #[] #[pt 1 0]]) (v := slv 2 0 m m) (H' := [rwR Zx l, rfB (slv 0 0 m c), dsB (acL kk l m)]) rfl rfl rfl rfl rfl rfl rfl ⟨⟨rfl, ⟨by simp [Zfv, Zdn, Zjz, idE], by kernel_rfl⟩, trivial⟩, ⟨(Zgg rfl), (Zaw rfl rfl rfl rfl), trivial⟩, rfl, rfl, rfl⟩ (by kernel_rfl) (by kernel_rfl) ?_
  refine Zb (slv 2 0 m m) (Za (Zc (Zs (Zu ?_))))
  exact Zbb [0, 1, 2] (v := slv 2 0 m m) rfl (by kernel_rfl) rfl rfl (by decide) (by simp [Zbe, rwR, rfB, dsB, Zlu, Zfz, Zx]) ⟨rfl, rfl, rfl, by first | omega | exact Nat.le_refl _ | exact Nat.zero_le _ | (dsimp only; omega), by first | omega | exact Nat.le_refl _ | exact Nat.zero_le _ | (dsimp only; omega)⟩
end Go.Flat
namespace Go.Flat
open Go.Proofs
variable {G : Glob}
def Zae (kk : Nat → BitVec 32) (l : List Item) (k : Int) : List D × Int := if Zin l then (if 0 ≤ k ∧ k ≤ l.length then (acL kk l k.toNat, 0) else ([], 21)) else ([], 100)
theorem Zpr (kk : Nat → BitVec 32) (l : List Item) (k : Int) : (Zae kk l k).1.length ≤ 2000 := by
 unfold Zae
 split
 ·rename_i h
  split
  ·rename_i h2
   have := h.1
   show (acL kk l k.toNat).length ≤ 2000
   rw [Zfk]; omega
  ·exact Nat.zero_le _
 ·exact Nat.zero_le _
def Zac (kk : Nat → BitVec 32) (l : List Item) (k : Int) : D × Int := if (Zae kk l k).2 = 0 then (Zcf kk (Zae kk l k).1, 0) else (dz, (Zae kk l k).2)
def Zaz (kk : Nat → BitVec 32) (l : List Item) (k region epoch tick : Int) : Head × Int := if (Zac kk l k).2 = 0 then (if Za7 ⟨region, epoch, k, (Zac kk l k).1, tick⟩ = 0 then (⟨region, epoch, k, (Zac kk l k).1, tick⟩, 0) else (⟨0, 0, 0, dz, 0⟩, 100)) else (⟨0, 0, 0, dz, 0⟩, (Zac kk l k).2)
def Zah (kk : Nat → BitVec 32) (l : List Item) (k i : Int) : List D × Int := if (Zae kk l k).2 = 0 then (if 0 ≤ i ∧ i < (Zae kk l k).1.length then (Zdc kk (Zae kk l k).1 i.toNat, 0) else ([], 20)) else ([], (Zae kk l k).2)
def conH (kk : Nat → BitVec 32) (l : List Item) (i k : Int) : List D × Int := if (Zae kk l k).2 = 0 then (if 0 ≤ i ∧ i ≤ (Zae kk l k).1.length then (if i = 0 then ([], 0) else (Z6w kk (Zae kk l k).1 i.toNat, 0)) else ([], 21)) else ([], (Zae kk l k).2)
theorem Zq8 (ds : List D) (c n : Nat) (i : Int) (hn : ds.length = n) (h : i < 0 ∨ (n : Int) ≤ i) : Z9 Tryd.prog G 46 [slv 0 0 n c, Iv i] [dsR ds] (.tuple #[Z2b, Iv 20]) [dsR ds] := by subst hn; exact Zqv ds c i h
theorem Zub (kk : Nat → BitVec 32) (hG : G 0 = some (Z6 w32 64 kk)) (l : List Item) (n c : Nat) (hn : l.length = n) (hc : n ≤ c) (hb : n ≤ 1048576) (k : Int) : Z9 Tryd.prog G 39 [slv 0 0 n c, Iv k] [rwR Zx l] (.tuple #[slv 1 0 (Zae kk l k).1.length (Zae kk l k).1.length, Iv (Zae kk l k).2]) [rwR Zx l, dsB (Zae kk l k).1] := by
  refine Zbu (fn := Tryd.f39) (nt := 21) rfl rfl rfl rfl ?_
  refine Zaj 2 (H' := [rwR Zx l, hole, hole]) rfl ?_
  refine Ze (Zf (Zb (.slice none 0 0) (Zb (Iv 0) (Za (Zc (Ze (Z5 (Ze (Zf (Zd (slv 0 0 n c) ?_))))))))))
  refine Zab (e := [some (0, 0)]) (nid := 0) (Zy3 (G := G) l n c hn (by omega) (by omega)) (vals := [slv 0 0 n c]) (v := Iv (Zop l)) (H' := [rwR Zx l, hole, hole]) rfl rfl rfl rfl rfl rfl rfl ⟨⟨⟨rfl, rfl, rfl, by first | omega | exact Nat.le_refl _, by first | omega | exact Nat.le_refl _⟩, trivial⟩, ⟨(Zgg rfl), trivial⟩, rfl, rfl, rfl⟩ rfl (by kernel_rfl) ?_
  by_cases h1 : (Zop l) ≠ 0
  refine Zj (vx := Iv (Zop l)) (vy := Iv 0) rfl rfl (.bool true) rfl rfl (Zek (by omega)) ?_
  refine Zb (.bool true) (Za (Zc (Zv rfl (Ze (Zf (Zb (.slice none 0 0) (Zb (Iv 100) (Za (Zc ?_)))))))))
  refine Zb5 (Zbo.nilTmp (i := 4) (b := 1) true 32 rfl (by decide) rfl) ?_
  refine Zs (Zct (Zaa (Zu ?_)))
  rw [show Zae kk l k = ([], 100) from if_neg (Z02 (by omega))]
  exact Zbb [0, 1] (v := .tuple #[slv 1 0 0 0, Iv 100]) rfl (by kernel_rfl) rfl rfl (by decide) (by simp [Zbe, rwR, dsB, Zx]) ⟨⟨rfl, rfl, rfl, by first | omega | exact Nat.le_refl _ | exact Nat.zero_le _ | (dsimp only; omega), by first | omega | exact Nat.le_refl _ | exact Nat.zero_le _ | (dsimp only; omega)⟩, rfl, trivial⟩
  refine Zj (vx := Iv (Zop l)) (vy := Iv 0) rfl rfl (.bool false) rfl rfl (Zd6 (by omega)) ?_
  refine Zb (.bool false) (Za (Zc (Zt rfl (Ze (Zf (Zd (Iv k) (Zd (slv 0 0 n c) (Zc3 (p := slv 0 0 n c) (v := Iv (n : Nat)) ?_))))))))
  by_cases h2 : 0 ≤ k
  by_cases h3 : k ≤ (n : Nat)
  refine Zp ((Zga (G := G) k 0 (n : Nat)).res (congrArg Value.bool (Zb8 (by omega) (by omega)))) (vals := [Iv k, Iv 0, Iv (n : Nat)]) (res' := .bool true) rfl rfl rfl rfl rfl rfl ?_
  refine Zi1 (vx := .bool true) rfl rfl (.bool false) rfl Zeu ?_
  refine Zb (.bool false) (Za (Zc (Zt rfl (Z0 (Zz (Zc (Ze ?_)))))))
  obtain ⟨q, rfl⟩ : ∃ x0 : Nat, k = (x0 : Int) := ⟨k.toNat, by omega⟩
  refine Zf (Zd (slv 0 0 n c) (Zd (Iv (q : Nat)) ?_))
  refine Zda (p := slv 0 0 n c) (vl := none) (vh := some (Iv (q : Nat))) (v := slv 0 0 q c) rfl rfl rfl rfl rfl (Zhp (h := q) rfl rfl (by omega) (by omega) rfl) ?_
  refine Zab (e := [some (0, 0)]) (nid := 1) (Zzo (G := G) l q c (by have := hn; omega) (by omega) (by omega)) (vals := [slv 0 0 q c]) (v := .func (.func 76) #[] #[pt 1 0]) (H' := [rwR Zx l, rfB (slv 0 0 q c), hole]) rfl rfl rfl rfl rfl rfl rfl ⟨⟨⟨rfl, rfl, rfl, by omega, by omega⟩, trivial⟩, ⟨(Zgg rfl), trivial⟩, rfl, rfl, rfl⟩ (by kernel_rfl) (by kernel_rfl) ?_
  refine Zab (e := [some (0, 0), some (1, 0)]) (nid := 2) (Zwg (G := G) kk hG l q c (by have := hn; omega) (by omega) (by omega)) (vals := [.func (.func 76) #[] #[pt 1 0]]) (v := slv 2 0 q q) (H' := [rwR Zx l, rfB (slv 0 0 q c), dsB (acL kk l q)]) rfl rfl rfl rfl rfl rfl rfl ⟨⟨⟨by simp [Zfv, Zdn, Zjz, idE], by kernel_rfl⟩, trivial⟩, ⟨(Zgg rfl), (Zaw rfl rfl rfl rfl), trivial⟩, rfl, rfl, rfl⟩ (by kernel_rfl) (by kernel_rfl) ?_
  refine Zb (slv 2 0 q q) (Zb (Iv 0) (Za (Zc (Zs (Zu ?_)))))
  rw [show Zae kk l ((q : Nat) : Int) = (acL kk l q, 0) from by unfold Zae; rw [if_pos (Zpj (by omega)), if_pos (by omega)]; rfl]
  rw [show (acL kk l q, (0 : Int)).1.length = q from Zfk kk l q]
  exact Zbb [0, 2] (v := .tuple #[slv 2 0 q q, Iv 0]) rfl (by kernel_rfl) rfl rfl (by decide) (by simp [Zbe, rwR, dsB, Zx]) ⟨⟨rfl, rfl, rfl, by first | omega | exact Nat.le_refl _ | exact Nat.zero_le _ | (dsimp only; omega), by first | omega | exact Nat.le_refl _ | exact Nat.zero_le _ | (dsimp only; omega)⟩, rfl, trivial⟩
  refine Zp ((Zga (G := G) k 0 (n : Nat)).res (congrArg Value.bool (Zao (by omega)))) (vals := [Iv k, Iv 0, Iv (n : Nat)]) (res' := .bool false) rfl rfl rfl rfl rfl rfl ?_
  refine Zi1 (vx := .bool false) rfl rfl (.bool true) rfl Zeu ?_
  refine Zb (.bool true) (Za (Zc (Zv rfl (Ze (Zf (Zb (.slice none 0 0) (Zb (Iv 21) (Za (Zc ?_)))))))))
  refine Zb5 (Zbo.nilTmp (i := 4) (b := 1) true 32 rfl (by decide) rfl) ?_
  refine Zs (Zct (Zaa (Zu ?_)))
  rw [show Zae kk l k = ([], 21) from by unfold Zae; rw [if_pos (Zpj (by omega)), if_neg (by omega)]]
  exact Zbb [0, 1] (v := .tuple #[slv 1 0 0 0, Iv 21]) rfl (by kernel_rfl) rfl rfl (by decide) (by simp [Zbe, rwR, dsB, Zx]) ⟨⟨rfl, rfl, rfl, by first | omega | exact Nat.le_refl _ | exact Nat.zero_le _ | (dsimp only; omega), by first | omega | exact Nat.le_refl _ | exact Nat.zero_le _ | (dsimp only; omega)⟩, rfl, trivial⟩
  refine Zp ((Zga (G := G) k 0 (n : Nat)).res (congrArg Value.bool (Zao (by omega)))) (vals := [Iv k, Iv 0, Iv (n : Nat)]) (res' := .bool false) rfl rfl rfl rfl rfl rfl ?_
  refine Zi1 (vx := .bool false) rfl rfl (.bool true) rfl Zeu ?_
  refine Zb (.bool true) (Za (Zc (Zv rfl (Ze (Zf (Zb (.slice none 0 0) (Zb (Iv 21) (Za (Zc ?_)))))))))
  refine Zb5 (Zbo.nilTmp (i := 4) (b := 1) true 32 rfl (by decide) rfl) ?_
  refine Zs (Zct (Zaa (Zu ?_)))
  rw [show Zae kk l k = ([], 21) from by unfold Zae; rw [if_pos (Zpj (by omega)), if_neg (by omega)]]
  exact Zbb [0, 1] (v := .tuple #[slv 1 0 0 0, Iv 21]) rfl (by kernel_rfl) rfl rfl (by decide) (by simp [Zbe, rwR, dsB, Zx]) ⟨⟨rfl, rfl, rfl, by first | omega | exact Nat.le_refl _ | exact Nat.zero_le _ | (dsimp only; omega), by first | omega | exact Nat.le_refl _ | exact Nat.zero_le _ | (dsimp only; omega)⟩, rfl, trivial⟩
theorem Ztd (kk : Nat → BitVec 32) (hG : G 0 = some (Z6 w32 64 kk)) (hG1 : G 2 = some (Z6 u8N 64 dbF)) (l : List Item) (n c : Nat) (hn : l.length = n) (hc : n ≤ c) (hb : n ≤ 1048576) (k : Int) : Z9 Tryd.prog G 21 [slv 0 0 n c, Iv k] [rwR Zx l] (.tuple #[dgV (Zac kk l k).1, Iv (Zac kk l k).2]) [rwR Zx l] := by
  refine Zbu (fn := Tryd.f21) (nt := 20) rfl rfl rfl rfl ?_
  refine Zaj 2 (H' := [rwR Zx l, hole, hole]) rfl ?_
  refine Ze (Zf (Zai (b := dgB dz) (nid := 1) (H' := [rwR Zx l, dgB dz, hole]) (Zb (Iv 0) (Za (Zc (Ze (Zf (Zd (slv 0 0 n c) (Zd (Iv k) ?_)))))))))
  have hfl3 := Zpr kk l k
  refine Zab (e := [some (0, 0)]) (nid := 2) (Zub (G := G) kk hG l n c hn (by omega) (by omega) k) (vals := [slv 0 0 n c, Iv k]) (v := .tuple #[slv 2 0 ((Zae kk l k).1.length) ((Zae kk l k).1.length), Iv ((Zae kk l k).2)]) (H' := [rwR Zx l, dgB dz, dsB ((Zae kk l k).1)]) rfl rfl rfl rfl rfl rfl rfl ⟨⟨⟨rfl, rfl, rfl, by first | omega | exact Nat.le_refl _, by first | omega | exact Nat.le_refl _⟩, rfl, trivial⟩, ⟨(Zgg rfl), trivial⟩, rfl, rfl, rfl⟩ (by kernel_rfl) (by kernel_rfl) ?_
  refine Zd (.tuple #[slv 2 0 ((Zae kk l k).1.length) ((Zae kk l k).1.length), Iv ((Zae kk l k).2)]) (Zq (vs := #[slv 2 0 ((Zae kk l k).1.length) ((Zae kk l k).1.length), Iv ((Zae kk l k).2)]) (v := slv 2 0 ((Zae kk l k).1.length) ((Zae kk l k).1.length)) (Zq (vs := #[slv 2 0 ((Zae kk l k).1.length) ((Zae kk l k).1.length), Iv ((Zae kk l k).2)]) (v := Iv ((Zae kk l k).2)) (Zb (slv 2 0 ((Zae kk l k).1.length) ((Zae kk l k).1.length)) (Zb (Iv ((Zae kk l k).2)) (Za (Zc (Ze (Ze (Zf (Zd (Iv ((Zae kk l k).2)) ?_))))))))))
  by_cases h1 : ((Zae kk l k).2) ≠ 0
  refine Zj (vx := Iv ((Zae kk l k).2)) (vy := Iv 0) rfl rfl (.bool true) rfl rfl (Zek (by omega)) ?_
  refine Za (Zc (Zv rfl (Ze (Zf ?_))))
  refine Zbm (vs := []) (v := dgV dz) rfl rfl rfl (by kernel_rfl) ?_
  refine Zd (Iv ((Zae kk l k).2)) (Z2 (p := pt 1 0) (v := dgV dz) (b := 1) (blk := dgB dz) (H' := [rwR Zx l, dgB dz, dsB ((Zae kk l k).1)]) (Zb (Iv ((Zae kk l k).2)) (Za (Zc (Zs (Zaa (Zu ?_)))))))
  rw [show Zac kk l k = (dz, (Zae kk l k).2) from if_neg (by omega)]
  exact Zm (v := .tuple #[dgV dz, Iv ((Zae kk l k).2)]) (by kernel_rfl) rfl rfl (by simp [Zbe, rwR, Zx]) ⟨(Zc0 (Zcj fun _ => rfl) rfl), rfl, trivial⟩
  refine Zj (vx := Iv ((Zae kk l k).2)) (vy := Iv 0) rfl rfl (.bool false) rfl rfl (Zd6 (by omega)) ?_
  refine Za (Zc (Zt rfl (Z0 (Zc (Ze (Zf (Zd (slv 2 0 ((Zae kk l k).1.length) ((Zae kk l k).1.length)) ?_)))))))
  refine Zab (e := [some (2, 0)]) (nid := 0) (Z0q (G := G) kk hG hG1 ((Zae kk l k).1) (c := ((Zae kk l k).1.length)) (n := ((Zae kk l k).1.length)) (rfl : _ = _) (by omega) (by omega) rfl) (vals := [slv 2 0 ((Zae kk l k).1.length) ((Zae kk l k).1.length)]) (v := dgV (Zcf kk ((Zae kk l k).1))) (H' := [rwR Zx l, dgB dz, dsB ((Zae kk l k).1)]) rfl rfl rfl rfl rfl rfl rfl ⟨⟨⟨rfl, rfl, rfl, by first | omega | exact Nat.le_refl _, by first | omega | exact Nat.le_refl _⟩, trivial⟩, ⟨(Zh3 rfl), trivial⟩, rfl, rfl, rfl⟩ (by kernel_rfl) (by kernel_rfl) ?_
  refine Z2 (p := pt 1 0) (v := dgV (Zcf kk ((Zae kk l k).1))) (b := 1) (blk := dgB (Zcf kk ((Zae kk l k).1))) (H' := [rwR Zx l, dgB (Zcf kk ((Zae kk l k).1)), dsB ((Zae kk l k).1)]) (Zb (Iv 0) (Za (Zc (Zs (Zu ?_)))))
  rw [show Zac kk l k = (Zcf kk (Zae kk l k).1, 0) from if_pos (by omega)]
  exact Zm (v := .tuple #[dgV (Zcf kk ((Zae kk l k).1)), Iv 0]) (by kernel_rfl) rfl rfl (by simp [Zbe, rwR, Zx]) ⟨(Zc0 (Zcj fun _ => rfl) rfl), rfl, trivial⟩
abbrev Y5  : Blk := bxB 36 (Zcq (⟨0, 0, 0, dz, 0⟩ : Head))
abbrev Y6 (kk : Nat → BitVec 32) (l : List Item) (k : Int) (region : Int) (epoch : Int) (tick : Int) : Blk := bxB 36 (Zcq (⟨region, epoch, k, (Zac kk l k).1, tick⟩ : Head))
theorem Z0j (kk : Nat → BitVec 32) (hG : G 0 = some (Z6 w32 64 kk)) (hG1 : G 2 = some (Z6 u8N 64 dbF)) (l : List Item) (n c : Nat) (hn : l.length = n) (hc : n ≤ c) (hb : n ≤ 1048576) (k region epoch tick : Int) : Z9 Tryd.prog G 8 [slv 0 0 n c, Iv k, Iv region, Iv epoch, Iv tick] [rwR Zx l] (.tuple #[Zb2 (Zaz kk l k region epoch tick).1, Iv (Zaz kk l k region epoch tick).2]) [rwR Zx l] := by
  refine Zbu (fn := Tryd.f8) (nt := 36) rfl rfl rfl rfl ?_
  refine Zaj 3 (H' := [rwR Zx l, hole, hole, hole]) rfl ?_
  refine Ze (Zf (Zai (b := bxB 36 (Zcq (⟨0, 0, 0, dz, 0⟩ : Head))) (nid := 1) (H' := [rwR Zx l, Y5, hole, hole]) (Zb (Iv 0) (Za (Zc (Ze (Zf (Zd (slv 0 0 n c) (Zd (Iv k) ?_)))))))))
  refine Zab (e := [some (0, 0)]) (nid := 0) (Ztd (G := G) kk hG hG1 l n c hn (by omega) (by omega) k) (vals := [slv 0 0 n c, Iv k]) (v := .tuple #[dgV ((Zac kk l k).1), Iv ((Zac kk l k).2)]) (H' := [rwR Zx l, Y5, hole, hole]) rfl rfl rfl rfl rfl rfl rfl ⟨⟨⟨rfl, rfl, rfl, by first | omega | exact Nat.le_refl _, by first | omega | exact Nat.le_refl _⟩, rfl, trivial⟩, ⟨(Zgg rfl), trivial⟩, rfl, rfl, rfl⟩ (by kernel_rfl) (by kernel_rfl) ?_
  refine Zd (.tuple #[dgV ((Zac kk l k).1), Iv ((Zac kk l k).2)]) (Zq (vs := #[dgV ((Zac kk l k).1), Iv ((Zac kk l k).2)]) (v := dgV ((Zac kk l k).1)) (Zq (vs := #[dgV ((Zac kk l k).1), Iv ((Zac kk l k).2)]) (v := Iv ((Zac kk l k).2)) (Zai (b := dgB dz) (nid := 2) (H' := [rwR Zx l, Y5, dgB dz, hole]) (Z2 (p := pt 2 0) (v := dgV ((Zac kk l k).1)) (b := 2) (blk := dgB ((Zac kk l k).1)) (H' := [rwR Zx l, Y5, dgB ((Zac kk l k).1), hole]) (Zb (Iv ((Zac kk l k).2)) (Za (Zc (Ze (Ze (Zf (Zd (Iv ((Zac kk l k).2)) ?_)))))))))))
  by_cases h1 : ((Zac kk l k).2) ≠ 0
  refine Zj (vx := Iv ((Zac kk l k).2)) (vy := Iv 0) rfl rfl (.bool true) rfl rfl (Zek (by omega)) ?_
  refine Za (Zc (Zv rfl (Ze (Zf ?_))))
  refine Zbm (vs := []) (v := Zb2 (⟨0, 0, 0, dz, 0⟩ : Head)) rfl rfl rfl (by kernel_rfl) ?_
  refine Zd (Iv ((Zac kk l k).2)) (Z2 (p := pt 1 0) (v := Zb2 (⟨0, 0, 0, dz, 0⟩ : Head)) (b := 1) (blk := bxB 36 (Zcq (⟨0, 0, 0, dz, 0⟩ : Head))) (H' := [rwR Zx l, Y5, dgB ((Zac kk l k).1), hole]) (Zb (Iv ((Zac kk l k).2)) (Za (Zc (Zs (Zaa (Zu ?_)))))))
  rw [show Zaz kk l k region epoch tick = (⟨0, 0, 0, dz, 0⟩, (Zac kk l k).2) from by unfold Zaz; rw [if_neg (by omega)]]
  exact Zm (v := .tuple #[Zb2 (⟨0, 0, 0, dz, 0⟩ : Head), Iv ((Zac kk l k).2)]) (by kernel_rfl) rfl rfl (by simp [Zbe, rwR, Zx]) ⟨(Zhe (by kernel_rfl) rfl), rfl, trivial⟩
  refine Zj (vx := Iv ((Zac kk l k).2)) (vy := Iv 0) rfl rfl (.bool false) rfl rfl (Zd6 (by omega)) ?_
  refine Za (Zc (Zt rfl (Z0 (Zc (Ze (Zf (Zd (Iv region) (Zd (Iv epoch) (Zd (Iv k) (Zn (p := pt 2 0) (v := dgV ((Zac kk l k).1)) (Zd (Iv tick) ?_)))))))))))
  refine Zbm (vs := [(0, Iv region), (1, Iv epoch), (2, Iv k), (3, dgV ((Zac kk l k).1)), (4, Iv tick)]) (v := Zb2 (⟨region, epoch, k, (Zac kk l k).1, tick⟩ : Head)) rfl rfl rfl (by kernel_rfl) ?_
  refine Zai (b := bxB 36 (Zcq (⟨0, 0, 0, dz, 0⟩ : Head))) (nid := 3) (H' := [rwR Zx l, Y5, dgB ((Zac kk l k).1), Y5]) (Z2 (p := pt 3 0) (v := Zb2 (⟨region, epoch, k, (Zac kk l k).1, tick⟩ : Head)) (b := 3) (blk := bxB 36 (Zcq (⟨region, epoch, k, (Zac kk l k).1, tick⟩ : Head))) (H' := [rwR Zx l, Y5, dgB ((Zac kk l k).1), Y6 kk l k region epoch tick]) (Za (Zc (Ze (Ze (Zf (Zn (p := pt 3 0) (v := Zb2 (⟨region, epoch, k, (Zac kk l k).1, tick⟩ : Head)) ?_)))))))
  refine Zp (Zo8 (G := G) (⟨region, epoch, k, (Zac kk l k).1, tick⟩ : Head)) (vals := [Zb2 (⟨region, epoch, k, (Zac kk l k).1, tick⟩ : Head)]) (res' := Iv (Za7 (⟨region, epoch, k, (Zac kk l k).1, tick⟩ : Head))) rfl rfl rfl rfl rfl rfl ?_
  by_cases h2 : (Za7 (⟨region, epoch, k, (Zac kk l k).1, tick⟩ : Head)) ≠ 0
  refine Zj (vx := Iv (Za7 (⟨region, epoch, k, (Zac kk l k).1, tick⟩ : Head))) (vy := Iv 0) rfl rfl (.bool true) rfl rfl (Zek (by omega)) ?_
  refine Za (Zc (Zv rfl (Ze (Zf ?_))))
  refine Zbm (vs := []) (v := Zb2 (⟨0, 0, 0, dz, 0⟩ : Head)) rfl rfl rfl (by kernel_rfl) ?_
  refine Z2 (p := pt 1 0) (v := Zb2 (⟨0, 0, 0, dz, 0⟩ : Head)) (b := 1) (blk := bxB 36 (Zcq (⟨0, 0, 0, dz, 0⟩ : Head))) (H' := [rwR Zx l, Y5, dgB ((Zac kk l k).1), Y6 kk l k region epoch tick]) (Zb (Iv 100) (Za (Zc (Zs (Zaa (Zu ?_))))))
  rw [show Zaz kk l k region epoch tick = (⟨0, 0, 0, dz, 0⟩, 100) from by unfold Zaz; rw [if_pos (by omega), if_neg (by omega)]]
  exact Zm (v := .tuple #[Zb2 (⟨0, 0, 0, dz, 0⟩ : Head), Iv 100]) (by kernel_rfl) rfl rfl (by simp [Zbe, rwR, Zx]) ⟨(Zhe (by kernel_rfl) rfl), rfl, trivial⟩
  refine Zj (vx := Iv (Za7 (⟨region, epoch, k, (Zac kk l k).1, tick⟩ : Head))) (vy := Iv 0) rfl rfl (.bool false) rfl rfl (Zd6 (by omega)) ?_
  refine Za (Zc (Zt rfl (Z0 (Zc (Ze (Zf (Zn (p := pt 3 0) (v := Zb2 (⟨region, epoch, k, (Zac kk l k).1, tick⟩ : Head)) (Z2 (p := pt 1 0) (v := Zb2 (⟨region, epoch, k, (Zac kk l k).1, tick⟩ : Head)) (b := 1) (blk := bxB 36 (Zcq (⟨region, epoch, k, (Zac kk l k).1, tick⟩ : Head))) (H' := [rwR Zx l, Y6 kk l k region epoch tick, dgB ((Zac kk l k).1), Y6 kk l k region epoch tick]) (Zb (Iv 0) (Za (Zc (Zs (Zu ?_)))))))))))))
  rw [show Zaz kk l k region epoch tick = ((⟨region, epoch, k, (Zac kk l k).1, tick⟩ : Head), 0) from by unfold Zaz; rw [if_pos (by omega), if_pos (by omega)]]
  exact Zm (v := .tuple #[Zb2 (⟨region, epoch, k, (Zac kk l k).1, tick⟩ : Head), Iv 0]) (by kernel_rfl) rfl rfl (by simp [Zbe, rwR, Zx]) ⟨(Zhe (by kernel_rfl) rfl), rfl, trivial⟩
theorem Z0k (kk : Nat → BitVec 32) (hG : G 0 = some (Z6 w32 64 kk)) (hG1 : G 2 = some (Z6 u8N 64 dbF)) (l : List Item) (n c : Nat) (hn : l.length = n) (hc : n ≤ c) (hb : n ≤ 1048576) (k i : Int) : Z9 Tryd.prog G 28 [slv 0 0 n c, Iv k, Iv i] [rwR Zx l] (.tuple #[slv 1 0 (Zah kk l k i).1.length (Zah kk l k i).1.length, Iv (Zah kk l k i).2]) [rwR Zx l, dsB (Zah kk l k i).1] := by
  refine Zbu (fn := Tryd.f28) (nt := 24) rfl rfl rfl rfl ?_
  refine Zaj 2 (H' := [rwR Zx l, hole, hole]) rfl ?_
  refine Ze (Zf (Zb (.slice none 0 0) (Zb (Iv 0) (Za (Zc (Ze (Zf (Zd (slv 0 0 n c) (Zd (Iv k) ?_)))))))))
  have hfl4 := Zpr kk l k
  refine Zab (e := [some (0, 0)]) (nid := 1) (Zub (G := G) kk hG l n c hn (by omega) (by omega) k) (vals := [slv 0 0 n c, Iv k]) (v := .tuple #[slv 1 0 ((Zae kk l k).1.length) ((Zae kk l k).1.length), Iv ((Zae kk l k).2)]) (H' := [rwR Zx l, dsB ((Zae kk l k).1), hole]) rfl rfl rfl rfl rfl rfl rfl ⟨⟨⟨rfl, rfl, rfl, by first | omega | exact Nat.le_refl _, by first | omega | exact Nat.le_refl _⟩, rfl, trivial⟩, ⟨(Zgg rfl), trivial⟩, rfl, rfl, rfl⟩ (by kernel_rfl) (by kernel_rfl) ?_
  refine Zd (.tuple #[slv 1 0 ((Zae kk l k).1.length) ((Zae kk l k).1.length), Iv ((Zae kk l k).2)]) (Zq (vs := #[slv 1 0 ((Zae kk l k).1.length) ((Zae kk l k).1.length), Iv ((Zae kk l k).2)]) (v := slv 1 0 ((Zae kk l k).1.length) ((Zae kk l k).1.length)) (Zq (vs := #[slv 1 0 ((Zae kk l k).1.length) ((Zae kk l k).1.length), Iv ((Zae kk l k).2)]) (v := Iv ((Zae kk l k).2)) (Zb (slv 1 0 ((Zae kk l k).1.length) ((Zae kk l k).1.length)) (Zb (Iv ((Zae kk l k).2)) (Za (Zc (Ze (Ze (Zf (Zd (Iv ((Zae kk l k).2)) ?_))))))))))
  by_cases h1 : ((Zae kk l k).2) ≠ 0
  refine Zj (vx := Iv ((Zae kk l k).2)) (vy := Iv 0) rfl rfl (.bool true) rfl rfl (Zek (by omega)) ?_
  refine Za (Zc (Zv rfl (Ze (Zf (Zd (Iv ((Zae kk l k).2)) (Zb (.slice none 0 0) (Zb (Iv ((Zae kk l k).2)) (Za (Zc ?_)))))))))
  refine Zb5 (Zbo.nilTmp (i := 6) (b := 2) true 32 rfl (by decide) rfl) ?_
  refine Zs (Zaa (Zu ?_))
  rw [show Zah kk l k i = ([], (Zae kk l k).2) from by unfold Zah; rw [if_neg (by omega)]]
  exact Zbb [0, 2] (v := .tuple #[slv 2 0 0 0, Iv ((Zae kk l k).2)]) rfl (by kernel_rfl) rfl rfl (by decide) (by simp [Zbe, rwR, dsB, Zx]) ⟨⟨rfl, rfl, rfl, by first | omega | exact Nat.le_refl _ | exact Nat.zero_le _ | (dsimp only; omega), by first | omega | exact Nat.le_refl _ | exact Nat.zero_le _ | (dsimp only; omega)⟩, rfl, trivial⟩
  refine Zj (vx := Iv ((Zae kk l k).2)) (vy := Iv 0) rfl rfl (.bool false) rfl rfl (Zd6 (by omega)) ?_
  refine Za (Zc (Zt rfl (Z0 (Zc (Ze (Zf (Zd (slv 1 0 ((Zae kk l k).1.length) ((Zae kk l k).1.length)) (Zd (Iv i) ?_))))))))
  by_cases h2 : i < 0
  refine Zab (e := [some (1, 0)]) (nid := 0) (Zq8 (G := G) ((Zae kk l k).1) ((Zae kk l k).1.length) ((Zae kk l k).1.length) i (rfl : _ = _) (by omega)) (vals := [slv 1 0 ((Zae kk l k).1.length) ((Zae kk l k).1.length), Iv i]) (v := .tuple #[.slice none 0 0, Iv 20]) (H' := [rwR Zx l, dsB ((Zae kk l k).1), hole]) rfl rfl rfl rfl rfl rfl rfl ⟨⟨⟨rfl, rfl, rfl, by first | omega | exact Nat.le_refl _, by first | omega | exact Nat.le_refl _⟩, rfl, trivial⟩, ⟨(Zh3 rfl), trivial⟩, rfl, rfl, rfl⟩ (by kernel_rfl) (by kernel_rfl) ?_
  refine Zq (vs := #[.slice none 0 0, Iv 20]) (v := .slice none 0 0) (Zq (vs := #[.slice none 0 0, Iv 20]) (v := Iv 20) (Zb (.slice none 0 0) (Zb (Iv 20) (Za (Zc ?_)))))
  refine Zb5 (Zbo.nilTmp (i := 6) (b := 2) true 32 rfl (by decide) rfl) ?_
  refine Zs (Zu ?_)
  rw [show Zah kk l k i = ([], 20) from by unfold Zah; rw [if_pos (by omega), if_neg (by omega)]]
  exact Zbb [0, 2] (v := .tuple #[slv 2 0 0 0, Iv 20]) rfl (by kernel_rfl) rfl rfl (by decide) (by simp [Zbe, rwR, dsB, Zx]) ⟨⟨rfl, rfl, rfl, by first | omega | exact Nat.le_refl _ | exact Nat.zero_le _ | (dsimp only; omega), by first | omega | exact Nat.le_refl _ | exact Nat.zero_le _ | (dsimp only; omega)⟩, rfl, trivial⟩
  by_cases h3 : i < ((((Zae kk l k).1.length) : Nat) : Int)
  refine Zab (e := [some (1, 0)]) (nid := 2) (Z3j (G := G) kk hG hG1 ((Zae kk l k).1) ((Zae kk l k).1.length) i.toNat (n := ((Zae kk l k).1.length)) (rfl : _ = _) (by omega) (by omega) (by omega) rfl) (vals := [slv 1 0 ((Zae kk l k).1.length) ((Zae kk l k).1.length), Iv i]) (v := .tuple #[slv 2 0 ((Zdc kk ((Zae kk l k).1) i.toNat).length) ((Zdc kk ((Zae kk l k).1) i.toNat).length), Iv 0]) (H' := [rwR Zx l, dsB ((Zae kk l k).1), dsB (Zdc kk ((Zae kk l k).1) i.toNat)]) rfl rfl rfl rfl rfl rfl rfl ⟨⟨⟨rfl, rfl, rfl, by first | omega | exact Nat.le_refl _, by first | omega | exact Nat.le_refl _⟩, (congrArg (Value.int .i64) (by omega)), trivial⟩, ⟨(Zh3 rfl), trivial⟩, rfl, rfl, rfl⟩ (by kernel_rfl) (by kernel_rfl) ?_
  refine Zq (vs := #[slv 2 0 ((Zdc kk ((Zae kk l k).1) i.toNat).length) ((Zdc kk ((Zae kk l k).1) i.toNat).length), Iv 0]) (v := slv 2 0 ((Zdc kk ((Zae kk l k).1) i.toNat).length) ((Zdc kk ((Zae kk l k).1) i.toNat).length)) (Zq (vs := #[slv 2 0 ((Zdc kk ((Zae kk l k).1) i.toNat).length) ((Zdc kk ((Zae kk l k).1) i.toNat).length), Iv 0]) (v := Iv 0) (Zb (slv 2 0 ((Zdc kk ((Zae kk l k).1) i.toNat).length) ((Zdc kk ((Zae kk l k).1) i.toNat).length)) (Zb (Iv 0) (Za (Zc (Zs (Zu ?_)))))))
  rw [show Zah kk l k i = (Zdc kk (Zae kk l k).1 i.toNat, 0) from by unfold Zah; rw [if_pos (by omega), if_pos (by omega)]]
  exact Zbb [0, 2] (v := .tuple #[slv 2 0 ((Zdc kk ((Zae kk l k).1) i.toNat).length) ((Zdc kk ((Zae kk l k).1) i.toNat).length), Iv 0]) rfl (by kernel_rfl) rfl rfl (by decide) (by simp [Zbe, rwR, dsB, Zx]) ⟨⟨rfl, rfl, rfl, by first | omega | exact Nat.le_refl _ | exact Nat.zero_le _ | (dsimp only; omega), by first | omega | exact Nat.le_refl _ | exact Nat.zero_le _ | (dsimp only; omega)⟩, rfl, trivial⟩
  refine Zab (e := [some (1, 0)]) (nid := 0) (Zq8 (G := G) ((Zae kk l k).1) ((Zae kk l k).1.length) ((Zae kk l k).1.length) i (rfl : _ = _) (by omega)) (vals := [slv 1 0 ((Zae kk l k).1.length) ((Zae kk l k).1.length), Iv i]) (v := .tuple #[.slice none 0 0, Iv 20]) (H' := [rwR Zx l, dsB ((Zae kk l k).1), hole]) rfl rfl rfl rfl rfl rfl rfl ⟨⟨⟨rfl, rfl, rfl, by first | omega | exact Nat.le_refl _, by first | omega | exact Nat.le_refl _⟩, rfl, trivial⟩, ⟨(Zh3 rfl), trivial⟩, rfl, rfl, rfl⟩ (by kernel_rfl) (by kernel_rfl) ?_
  refine Zq (vs := #[.slice none 0 0, Iv 20]) (v := .slice none 0 0) (Zq (vs := #[.slice none 0 0, Iv 20]) (v := Iv 20) (Zb (.slice none 0 0) (Zb (Iv 20) (Za (Zc ?_)))))
  refine Zb5 (Zbo.nilTmp (i := 6) (b := 2) true 32 rfl (by decide) rfl) ?_
  refine Zs (Zu ?_)
  rw [show Zah kk l k i = ([], 20) from by unfold Zah; rw [if_pos (by omega), if_neg (by omega)]]
  exact Zbb [0, 2] (v := .tuple #[slv 2 0 0 0, Iv 20]) rfl (by kernel_rfl) rfl rfl (by decide) (by simp [Zbe, rwR, dsB, Zx]) ⟨⟨rfl, rfl, rfl, by first | omega | exact Nat.le_refl _ | exact Nat.zero_le _ | (dsimp only; omega), by first | omega | exact Nat.le_refl _ | exact Nat.zero_le _ | (dsimp only; omega)⟩, rfl, trivial⟩
end Go.Flat
namespace Go.Flat

abbrev Stp := D × Bool
def Zip (size index : Nat) (ds : List D) : Option (List Stp) :=
  if h : size ≤ 1 then (if ds.length = 0 then some [] else none)
  else if ds.length = 0 then none
  else if index < Zaq size then (Zip (Zaq size) index (ds.take (ds.length - 1))).map fun l => (ds.getD (ds.length - 1) d0, false) :: l
  else (Zip (size - Zaq size) (index - Zaq size) (ds.take (ds.length - 1))).map fun l => (ds.getD (ds.length - 1) d0, true) :: l
termination_by size
decreasing_by
  · exact (Zfp (n := size) (by omega)).2
  · have := Zfp (n := size) (by omega); omega
theorem Zkp {size : Nat} (index : Nat) (ds : List D) (h : size ≤ 1) : Zip size index ds = if ds.length = 0 then some [] else none := by
 rw [Zip, dif_pos h]
theorem Zvw {size : Nat} (index : Nat) {ds : List D} (h : 2 ≤ size) (h0 : ds.length = 0) : Zip size index ds = none := by
 rw [Zip, dif_neg (by omega), if_pos h0]
theorem Zo5 {size index : Nat} {ds : List D} (h : 2 ≤ size) (h0 : 0 < ds.length) (hi : index < Zaq size) : Zip size index ds = (Zip (Zaq size) index (ds.take (ds.length - 1))).map fun l => (ds.getD (ds.length - 1) d0, false) :: l := by
 rw [Zip, dif_neg (by omega), if_neg (by omega), if_pos hi]
theorem Zo4 {size index : Nat} {ds : List D} (h : 2 ≤ size) (h0 : 0 < ds.length) (hi : Zaq size ≤ index) : Zip size index ds = (Zip (size - Zaq size) (index - Zaq size) (ds.take (ds.length - 1))).map fun l => (ds.getD (ds.length - 1) d0, true) :: l := by
 rw [Zip, dif_neg (by omega), if_neg (by omega), if_neg (by omega)]
theorem Zqs : ∀ (t : Nat) (size index : Nat) (ds : List D) (l : List Stp), size ≤ 2 ^ t → Zip size index ds = some l → l.length = ds.length ∧ ds.length ≤ t
  | 0, size, index, ds, l, h, hw => by
    rw [Zkp index ds (by simpa using h)] at hw
    split at hw
    · rename_i h0
      injection hw with hw; subst hw
      exact ⟨h0.symm, by omega⟩
    · cases hw
  | t + 1, size, index, ds, l, h, hw => by
    by_cases h2 : 2 ≤ size
    · rcases Nat.eq_zero_or_pos ds.length with h0 | h0
      · rw [Zvw index h2 h0] at hw; cases hw
      · have e := Zob h2
        have h1 := Nat.log2_self_le (n := size - 1) (by omega)
        have h3 := Nat.lt_log2_self (n := size - 1)
        rw [Nat.pow_succ, ← e] at h3
        rw [← e] at h1
        have hk : Zaq size ≤ 2 ^ t := by
          rw [e]
          refine Nat.pow_le_pow_right (by decide) ?_
          have : 2 ^ (size - 1).log2 < 2 ^ (t + 1) := by rw [← e]; omega
          have := (Nat.pow_lt_pow_iff_right (a := 2) (by decide)).1 this
          omega
        by_cases hi : index < Zaq size
        · rw [Zo5 h2 h0 hi] at hw
          obtain ⟨l', h4, rfl⟩ := Option.map_eq_some_iff.1 hw
          have := Zqs t _ _ _ _ hk h4
          simp at this ⊢
          omega
        · rw [Zo4 h2 h0 (by omega)] at hw
          obtain ⟨l', h4, rfl⟩ := Option.map_eq_some_iff.1 hw
          have := Zqs t _ _ _ _ (by omega) h4
          simp at this ⊢
          omega
    · rw [Zkp index ds (by omega)] at hw
      split at hw
      · rename_i h0
        injection hw with hw; subst hw
        exact ⟨h0.symm, by omega⟩
      · cases hw
def knA (kk : Nat → BitVec 32) (leaf : D) : List Stp → List D
  | [] => [leaf]
  | (b, r) :: t => (if r then Zf6 kk b ((knA kk leaf t).getD 0 d0) else Zf6 kk ((knA kk leaf t).getD 0 d0) b) :: knA kk leaf t
theorem Zyo (kk : Nat → BitVec 32) (leaf : D) : ∀ l, (knA kk leaf l).length = l.length + 1
 | [] => rfl
 | (b, r) :: t => by simp [knA, Zyo kk leaf t]
def tx (a b : D) : ByteArray := Zq0 ++ Zk (dgL a) ++ Zk (dgL b)
def knT (kk : Nat → BitVec 32) (leaf : D) : List Stp → List ByteArray
  | [] => []
  | (b, r) :: t => (if r then tx b ((knA kk leaf t).getD 0 d0) else tx ((knA kk leaf t).getD 0 d0) b) :: knT kk leaf t

def Zfj (l : List Stp) : List Value := (l.map fun p => Z6 w8 32 p.1 ++ [Value.bool p.2]).flatten
def Zcz (l : List Stp) : Blk := { cells := Zfj l, sz := 33, wr := true, fix := false, mv := true, pur := true }
def Zjr (l : List Stp) : Blk := { cells := Zfj l, sz := 33, wr := false, fix := false, mv := true, pur := true }
theorem Zne (l : List Stp) : (Zfj l).length = l.length * 33 := by
 induction l with
 | nil => rfl
 | cons p l ih => simp only [Zfj, List.map_cons, List.flatten_cons, List.length_append, Zbt, List.length_cons, List.length_nil] at ih ⊢; omega
theorem Zvo (p q : List Stp) : Zfj (p ++ q) = Zfj p ++ Zfj q := by simp [Zfj]
theorem Z0c (l : List Stp) : (Zfj l).all Zbj = true := by
 induction l with
 | nil => rfl
 | cons p l ih =>
  have : Zfj (p :: l) = Z6 w8 32 p.1 ++ [Value.bool p.2] ++ Zfj l := by simp [Zfj]
  rw [this, List.all_append, List.all_append, Zrx, ih]; rfl
end Go.Flat
namespace Go.Flat
open Go.Proofs
variable {G : Glob}
set_option maxHeartbeats 4000000 in
theorem Zyp (ds : List D) (n c : Nat) (hn : ds.length = n + 1) (hb : n ≤ 1000000) (hc : n + 1 ≤ c) :
  Z9 Tryd.prog G 57 [slv 0 0 (n + 1) c] [dsR ds] (.tuple #[dgV (ds.getD n d0), slv 0 0 n c]) [dsR ds] := by
 refine Zbu (fn := Tryd.f57) (nt := 20) rfl rfl rfl rfl ?_
 refine Zaj 1 (H' := [dsR ds, hole]) rfl ?_
 have hR : (dsR ds).cells.length = ds.length * 32 := Zb7 ds
 have hx : ((n + 1 : Nat) : Int) - 1 = (n : Nat) := by omega
 have hat := Zja ds n (by omega)
 generalize ds.getD n d0 = x at hat ⊢
 repeat (first
  | ((with_reducible apply Zal); rfl; rfl; exact (rfl : _ = Value.pointer (some ⟨0, _, _⟩)); exact Zcu (n := 32) rfl rfl (by omega) hat)
  | ((with_reducible apply Zda); rfl; rfl; exact (rfl : _ = Value.slice (some ⟨_, _, _⟩) _ _); rfl; rfl; exact Zhp (h := n) rfl rfl hx (by omega) rfl)
  | ((with_reducible apply Zbs (j := n * 32)); rfl; rfl; exact (rfl : _ = Value.slice (some ⟨_, _, _⟩) _ _); (exact (rfl : _ = Value.int _ _)); (exact (rfl : _ = some (_, 32))); omega; omega; omega)
  | ((with_reducible apply Zan); rfl; rfl; (first
  | exact (rfl : _ = Value.int _ _)
  | exact (rfl : _ = Value.slice _ _ _)))
  | ((with_reducible apply Zak); rfl; rfl; (first
  | exact (rfl : _ = Value.int _ _)
  | exact (rfl : _ = Value.slice _ _ _)))
  | ((with_reducible apply Zj); rfl; rfl; (exact (rfl : _ = Value.int _ _)); (exact (rfl : _ = Value.int _ _)); (first
  | with_reducible exact Zgm (by omega)
  | with_reducible exact Zdg rfl (by omega) (by omega)))
  | ((with_reducible apply Ze6); rfl; rfl; (exact (rfl : _ = Value.slice _ _ _)); (exact (rfl : _ = some (Value.int _ _))))
  | ((with_reducible apply Za1); rfl; exact (rfl : _ = Value.pointer (some ⟨_, _, _⟩)); (exact (rfl : _ = Value.agg _)); (rfl); exact (rfl : _ = _ :: _))
  | ((with_reducible apply Zcb (nid := 1)); rfl; rfl; rfl; exact (rfl : _ = _ :: _))
  | with_reducible refine Za ?_
  | with_reducible refine Zf ?_
  | with_reducible refine Ze ?_
  | with_reducible refine Z0 ?_
  | with_reducible refine Zs ?_
  | with_reducible refine Zc ?_
  | (with_reducible refine Zdq (by kernel_rfl) ?_)
  | (with_reducible refine Zer (by kernel_rfl) ?_)
  | ((with_reducible apply Zt); rfl))
 refine Zu ?_
 refine Zm (v := .tuple #[dgV x, slv 0 0 n c]) (by kernel_rfl) rfl rfl (by simp [Zbe, dsR]) ?_
 exact ⟨Zc0 (Zcj fun _ => rfl) rfl, ⟨rfl, rfl, rfl, by omega, by omega⟩, trivial⟩
set_option maxHeartbeats 4000000 in
theorem Z10 (ds : List D) (c : Nat) (hn : ds.length = 0) : Zsc Tryd.prog G 57 [slv 0 0 0 c] [dsR ds] := by
 refine Z5i (fn := Tryd.f57) (nt := 20) rfl rfl rfl rfl ?_
 refine Zaj 1 (H' := [dsR ds, hole]) rfl ?_
 iterate 15 (first
  | ((with_reducible apply Zan); rfl; rfl; (exact (rfl : _ = Value.slice _ _ _)))
  | ((with_reducible apply Zak); rfl; rfl; (exact (rfl : _ = Value.slice _ _ _)))
  | ((with_reducible apply Zj); rfl; rfl; (exact (rfl : _ = Value.int _ _)); (exact (rfl : _ = Value.int _ _)); (with_reducible exact Zeb (by omega)))
  | ((with_reducible apply Ze6); rfl; rfl; (exact (rfl : _ = Value.slice _ _ _)); (exact (rfl : _ = some (Value.int _ _))))
  | ((with_reducible apply Zcb (nid := 1)); rfl; rfl; rfl; exact (rfl : _ = _ :: _))
  | with_reducible refine Za ?_
  | with_reducible refine Zf ?_
  | with_reducible refine Ze ?_
  | with_reducible refine Zc ?_
  | ((with_reducible apply Zv); rfl))
 refine Zsk 2 rfl (rfl : _ = [_, _]) ?_
 repeat (first
  | ((with_reducible apply Zjv); rfl; rfl; exact (rfl : _ = Value.agg _); exact (rfl : _ = some (Value.iface _ _)))
  | ((with_reducible apply Zbm); rfl; rfl; rfl; exact (rfl : _ = some (Value.agg _))))
 refine Zkj ⟨Zyt rfl rfl, fun u v => ?_⟩
 repeat (first | with_reducible refine Zo6 ?_ | with_reducible refine Znk ?_ | with_reducible refine Znl ?_)
 exact Z3g
end Go.Flat
