/- Walks. -/
import Derived.Test.YtlnggiomppkjmaaDoorP2
import Derived.Test.YtlnggiomppkjmaaDoorFlatH
import Derived.Test.YtlnggiomppkjmaaDoorFlatG
set_option linter.unusedVariables false
set_option linter.unusedSimpArgs false
set_option maxRecDepth 20000
namespace Go.Flat
open Go.Proofs
variable {G : Glob}
def cDg : Cod D := ⟨fun d => Zah w8 32 d, 32, fun _ => rfl, by decide⟩
def acL (kk : Nat → BitVec 32) (l : List Item) : Nat → List D
  | 0 => []
  | k + 1 => acL kk l k ++ [(Zbp kk (l.getD k default)).1]
theorem Zks (kk : Nat → BitVec 32) (l : List Item) : ∀ k, (acL kk l k).length = k
 | 0 => rfl
 | k + 1 => by rw [acL, List.length_append, Zks kk l k]; rfl
theorem Zxj (l : List Item) (m c : Nat) (hm : m ≤ l.length) (hc : m ≤ c) (hb : m ≤ 1048576) : Z6 Tryd.prog G 64 [slv 0 0 m c] [rwR Zi l] (.func (.func 72) #[] #[pt 1 0]) [rwR Zi l, rfB (slv 0 0 m c)] := by
 refine Zbh (fn := Tryd.f64) (nt := 4) rfl rfl rfl rfl ?_
 refine Zaf 1 (H' := [rwR Zi l, hole]) rfl ?_
 refine Zf (Zg (Zb7 (v := slv 0 0 m c) (b := rfB (slv 0 0 m c)) (nid := 1) (H' := [rwR Zi l, rfB (slv 0 0 m c)]) (Zb .nilFunc (Za (Zc (Zf (Zg ?_)))))))
 refine Zgw (vs := []) (ws := [pt 1 0]) rfl rfl rfl rfl rfl ?_
 refine Zb (.func (.func 72) #[] #[pt 1 0]) (Za (Zc (Zr (Zt ?_))))
 exact Zbc [0, 1] (v := .func (.func 72) #[] #[pt 1 0]) rfl (by kernel_rfl) rfl rfl (by decide) (by simp [Zbe, rwR, rfB, Zib, Zeg, Zi]) ⟨by simp [Ze6, Zc8, Zi6, idE], by kernel_rfl⟩
theorem Zsw (kk : Nat → BitVec 32) (hG : G 0 = some (Zah w32 64 kk)) (l : List Item) (m c : Nat) (hm : m ≤ l.length) (hc : m ≤ c) (hb : m ≤ 1048576) : Zyd Tryd.prog G 72 [pt 1 0] m (fun k => [dgV ((Zbp kk (l.getD k default)).1)]) [rwR Zi l, rfB (slv 0 0 m c), rfB (slv 3 0 0 0), dsB (acL kk l 0)] (fun k => [rwR Zi l, rfB (slv 0 0 m c), rfB (slv 3 0 k k), dsB (acL kk l k), bxB 110 (Zbi (l.getD k default)), dgB ((Zbp kk (l.getD k default)).1)]) (fun k => [rwR Zi l, rfB (slv 0 0 m c), rfB (slv 3 0 (k + 1) (k + 1)), dsB (acL kk l (k + 1)), bxB 110 (Zbi (l.getD k default)), dgB ((Zbp kk (l.getD k default)).1)]) (fun _ => True) [rwR Zi l, rfB (slv 0 0 m c), rfB (slv 3 0 m m), dsB (acL kk l m)] := by
 refine Zui (fn := Tryd.f72) rfl rfl (nt := 23) rfl rfl rfl ?_
 intro E l' Stop hE hd hY
 refine Zjb ?_
 refine Zn6 (by kernel_rfl) ?_
 refine Zal (p := pt 1 0) (v := slv 0 0 m c) rfl rfl rfl rfl ?_
 refine Zaw (p := slv 0 0 m c) (v := Iv (m : Nat)) (Zd (Iv 0) (Za (Zag (Zsd ?_))))
 refine Z1x hE (fun k : Nat => [.func (.yield l') #[] #[], pt 1 0, dead, dead, dead, dead, dead, slv 0 0 m c, Iv (m : Nat), Iv (k : Nat)]) (fun k : Nat => [rwR Zi l, rfB (slv 0 0 m c), rfB (slv 3 0 k k), dsB (acL kk l k)]) (fun k : Nat => k ≤ m) (fun k : Nat => m - k) 0 (Nat.zero_le _) ?_ ?_
 ·refine Zaj (n := 4) rfl ?_ (by kernel_rfl) (by kernel_rfl)
  repeat (first | exact trivial | refine ⟨.inl rfl, ?_⟩ | refine ⟨.inr ⟨rfl, rfl⟩, ?_⟩ | refine ⟨.inr ⟨congrArg (Value.int .i64) (by first | omega | (dsimp only; omega)), rfl⟩, ?_⟩)
 rintro k hk
 refine Z1w hE 2 (H' := [rwR Zi l, rfB (slv 0 0 m c), rfB (slv 3 0 k k), dsB (acL kk l k), hole, hole]) rfl ?_
 have hks : ∀ j, j < k → True := fun _ _ => trivial
 refine Zjb ?_
 refine Zn6 (by kernel_rfl) ?_
 by_cases h1 : (k : Nat) < (m : Nat)
 refine Zl (vx := Iv (k : Nat)) (vy := Iv (m : Nat)) rfl rfl (.bool true) rfl rfl (Zck (by omega)) ?_
 refine Za (Zag (Zjb (Z1y rfl (Zv6 (Zag (Zjb (Zsd (Zjb ?_))))))))
 refine Zn6 (by kernel_rfl) ?_
 refine Zbo (b := 0) (o := 0) (j := k * 110) (m := m) (c := c) (sz := 110) (i := (k : Nat)) (k := .i64) rfl rfl rfl rfl rfl (by omega) (by omega) (by omega) ?_
 refine Zal (p := pt 0 (k * 110)) (v := Zbd (l.getD k default)) rfl rfl rfl (Zf6 (n := 0) (m := 110) Zi rfl rfl rfl rfl (by omega) (by omega)) ?_
 refine Za9 (b := bxB 110 (Zbi (⟨0, (⟨0, 0, 0, ⟨#[]⟩, (⟨(⟨0, 0, 0, dz, 0⟩ : Head), 0, dz⟩ : Signed), (⟨0, 0, 0, 0, dz⟩ : Claim)⟩ : Entry)⟩ : Item))) (nid := 4) (H' := [rwR Zi l, rfB (slv 0 0 m c), rfB (slv 3 0 k k), dsB (acL kk l k), bxB 110 (Zbi (⟨0, (⟨0, 0, 0, ⟨#[]⟩, (⟨(⟨0, 0, 0, dz, 0⟩ : Head), 0, dz⟩ : Signed), (⟨0, 0, 0, 0, dz⟩ : Claim)⟩ : Entry)⟩ : Item)), hole]) (Zab (p := pt 4 0) (v := Zbd (l.getD k default)) (b := 4) (blk := bxB 110 (Zbi (l.getD k default))) (H' := [rwR Zi l, rfB (slv 0 0 m c), rfB (slv 3 0 k k), dsB (acL kk l k), bxB 110 (Zbi (l.getD k default)), hole]) (Za (Zag (Zjb ?_))))
 refine Zn6 (by kernel_rfl) ?_
 refine Zn (p := pt 4 0) (v := Zbd (l.getD k default)) ?_
 refine Zs (Z1c (G := G) kk hG (l.getD k default)) (vals := [Zbd (l.getD k default)]) (res' := .tuple #[dgV ((Zbp kk (l.getD k default)).1), Iv ((Zbp kk (l.getD k default)).2)]) rfl rfl rfl rfl rfl (by kernel_rfl) ?_
 refine Zd (.tuple #[dgV ((Zbp kk (l.getD k default)).1), Iv ((Zbp kk (l.getD k default)).2)]) (Z1 (vs := #[dgV ((Zbp kk (l.getD k default)).1), Iv ((Zbp kk (l.getD k default)).2)]) (v := dgV ((Zbp kk (l.getD k default)).1)) (Z1 (vs := #[dgV ((Zbp kk (l.getD k default)).1), Iv ((Zbp kk (l.getD k default)).2)]) (v := Iv ((Zbp kk (l.getD k default)).2)) (Za9 (b := dgB dz) (nid := 5) (H' := [rwR Zi l, rfB (slv 0 0 m c), rfB (slv 3 0 k k), dsB (acL kk l k), bxB 110 (Zbi (l.getD k default)), dgB dz]) (Zab (p := pt 5 0) (v := dgV ((Zbp kk (l.getD k default)).1)) (b := 5) (blk := dgB ((Zbp kk (l.getD k default)).1)) (H' := [rwR Zi l, rfB (slv 0 0 m c), rfB (slv 3 0 k k), dsB (acL kk l k), bxB 110 (Zbi (l.getD k default)), dgB ((Zbp kk (l.getD k default)).1)]) (Zb (Iv ((Zbp kk (l.getD k default)).2)) (Za (Zag (Zjb ?_))))))))
 refine Zy1 (fun w' h => ⟨w', h, rfl⟩) 2 rfl rfl rfl (by kernel_rfl) ?_
 refine Zd (.func (.yield l') #[] #[]) (Zn (p := pt 5 0) (v := dgV ((Zbp kk (l.getD k default)).1)) ?_)
 refine Zrh ?_
 show Zvl _ _ _ _ _ _ _ _ _ _ _ _ _
 unfold Zvl
 refine ⟨l', [dgV ((Zbp kk (l.getD k default)).1)], [rwR Zi l, rfB (slv 0 0 m c), rfB (slv 3 0 (k + 1) (k + 1)), dsB (acL kk l (k + 1)), bxB 110 (Zbi (l.getD k default)), dgB ((Zbp kk (l.getD k default)).1)], True, rfl, rfl, by decide, hY k (by omega) hks, fun hok => ?_, ?_⟩
 refine Zfb (vx := .bool true) rfl rfl (.bool false) rfl Zcq ?_
 refine Za (Zag (Zse rfl (Zv6 (Z7 (Zag ?_)))))
 refine Zn6 (by kernel_rfl) ?_
 refine Zl (vx := Iv (k : Nat)) (vy := Iv 1) rfl rfl (Iv ((k : Nat) + 1)) rfl rfl (Zak (by omega) (by omega) (by omega)) ?_
 refine Zd (Iv ((k : Nat) + 1)) (Za ?_)
 refine Zag ⟨(k + 1), (show k + 1 ≤ m by omega), by show m - (k + 1) < m - k; omega, ?_⟩
 refine Zaj (n := 4) rfl ?_ (by kernel_rfl) (by kernel_rfl)
 repeat (first | exact trivial | refine ⟨.inl rfl, ?_⟩ | refine ⟨.inr ⟨rfl, rfl⟩, ?_⟩ | refine ⟨.inr ⟨congrArg (Value.int .i64) (by first | omega | (dsimp only; omega)), rfl⟩, ?_⟩)
 refine Zfb (vx := .bool false) rfl rfl (.bool true) rfl Zcq ?_
 refine Za (Zag (Z1u rfl (Zy0 (Zar (Zcy (Zcy (Zar ?_)))))))
 exact ⟨.inr rfl⟩
 refine Zl (vx := Iv (k : Nat)) (vy := Iv (m : Nat)) rfl rfl (.bool false) rfl rfl (Zcd (by omega)) ?_
 refine Za (Zag (Zjb (Zse rfl (Z1v (Zax (Zax (Zav rfl ?_)))))))
 obtain rfl : k = m := by omega
 exact ⟨⟨.inl rfl, fun _ _ => trivial, _, Zaj (l := []) (n := 4) rfl trivial (by kernel_rfl) (by kernel_rfl)⟩⟩
theorem Zws (kk : Nat → BitVec 32) (hG : G 0 = some (Zah w32 64 kk)) (l : List Item) (m c : Nat) (hm : m ≤ l.length) (hc : m ≤ c) (hb : m ≤ 1048576) : Z6 Tryd.prog G 71 [.slice none 0 0, .func (.func 72) #[] #[pt 1 0]] [rwR Zi l, rfB (slv 0 0 m c)] (slv 2 0 m m) [rwR Zi l, rfB (slv 0 0 m c), dsB (acL kk l m)] := by
  refine Z6.introM (fn := Tryd.f71) rfl rfl (nt := 13) rfl rfl ?_
  refine Zub (Zyy ?_)
  refine Zv4 2 (H' := [rwR Zi l, rfB (slv 0 0 m c), hole, hole]) rfl ?_
  refine Zn5 (by kernel_rfl) ?_
  refine Zb7 (v := .slice none 0 0) (b := rfB (.slice none 0 0)) (nid := 2) (H' := [rwR Zi l, rfB (slv 0 0 m c), rfB (.slice none 0 0), hole]) (Zb (.slice none 0 0) (Za (Zag (Zub (Zub (Zyy ?_))))))
  refine Zv5 (Za7.nilCell (k := 2) (j := 0) (b := 3) true 32 rfl (by decide) rfl (by show 0 < 1; decide) rfl rfl) ?_
  refine Zn5 (by kernel_rfl) ?_
  refine Zd (.func (.func 72) #[] #[pt 1 0]) (Za (Zag ?_))
  have hiter := Zsw (G := G) kk hG l m c hm hc hb
  refine Zyx (lbs := #[pt 1 0]) (iter := hiter) rfl rfl rfl (by intro _ _; rfl) (by kernel_rfl) ?_ ?_
  · intro lp k hk hks
    refine Zv4 2 (H' := [rwR Zi l, rfB (slv 0 0 m c), rfB (slv 3 0 k k), dsB (acL kk l k), bxB 110 (Zbi (l.getD k default)), dgB ((Zbp kk (l.getD k default)).1), hole, hole]) rfl ?_
    refine Zn5 (by kernel_rfl) ?_
    refine Za9 (b := dgB dz) (nid := 6) (H' := [rwR Zi l, rfB (slv 0 0 m c), rfB (slv 3 0 k k), dsB (acL kk l k), bxB 110 (Zbi (l.getD k default)), dgB ((Zbp kk (l.getD k default)).1), dgB dz, hole]) (Zab (p := pt 6 0) (v := dgV ((Zbp kk (l.getD k default)).1)) (b := 6) (blk := dgB ((Zbp kk (l.getD k default)).1)) (H' := [rwR Zi l, rfB (slv 0 0 m c), rfB (slv 3 0 k k), dsB (acL kk l k), bxB 110 (Zbi (l.getD k default)), dgB ((Zbp kk (l.getD k default)).1), dgB ((Zbp kk (l.getD k default)).1), hole]) (Za (Zag (Zyz ?_))))
    refine Zn5 (by kernel_rfl) ?_
    refine Zal (p := pt 2 0) (v := slv 3 0 k k) rfl rfl rfl rfl ?_
    refine Zn (p := pt 6 0) (v := dgV ((Zbp kk (l.getD k default)).1)) ?_
    refine Zep (vs := [(0, dgV ((Zbp kk (l.getD k default)).1))]) (v := slv 7 0 1 1) (blk := dsB [(Zbp kk (l.getD k default)).1]) (nid := 7) (H' := [rwR Zi l, rfB (slv 0 0 m c), rfB (slv 3 0 k k), dsB (acL kk l k), bxB 110 (Zbi (l.getD k default)), dgB ((Zbp kk (l.getD k default)).1), dgB ((Zbp kk (l.getD k default)).1), dsB [(Zbp kk (l.getD k default)).1]]) rfl rfl rfl (by kernel_rfl) (by kernel_rfl) ?_
    have hl1 : ((acL kk l k) ++ [(Zbp kk (l.getD k default)).1]).length = k + 1 := by have := (Zks kk l k); have := (rfl : _ = 1); first | (rw [List.length_append]; omega) | (rw [List.length_append, List.length_take]; omega) | (simp; omega) | simp
    refine Zc6 (p := slv 3 0 k k) (q := slv 7 0 1 1) (v := slv 3 0 (k + 1) (k + 1)) (b := 3) (blk := dsB ((acL kk l k) ++ [(Zbp kk (l.getD k default)).1])) (H' := [rwR Zi l, rfB (slv 0 0 m c), rfB (dead), dsB ((acL kk l k) ++ [(Zbp kk (l.getD k default)).1]), bxB 110 (Zbi (l.getD k default)), dgB ((Zbp kk (l.getD k default)).1), dgB ((Zbp kk (l.getD k default)).1), dsB [(Zbp kk (l.getD k default)).1]]) rfl rfl rfl (.inl ⟨_, rfl⟩) rfl rfl (Zig cDg (by_ := 32) (k := 1) (n' := k + 1) (ms := [(Zbp kk (l.getD k default)).1]) (fun _ => rfl) rfl rfl (by kernel_rfl) rfl rfl (by have := (Zks kk l k); omega) (by omega) (by decide) (by omega)) rfl (by kernel_rfl) ?_
    refine Zab (p := pt 2 0) (v := slv 3 0 (k + 1) (k + 1)) (b := 2) (blk := rfB (slv 3 0 (k + 1) (k + 1))) (H' := [rwR Zi l, rfB (slv 0 0 m c), rfB (slv 3 0 (k + 1) (k + 1)), dsB ((acL kk l k) ++ [(Zbp kk (l.getD k default)).1]), bxB 110 (Zbi (l.getD k default)), dgB ((Zbp kk (l.getD k default)).1), dgB ((Zbp kk (l.getD k default)).1), dsB [(Zbp kk (l.getD k default)).1]]) (Za (Z7 ?_))
    exact ⟨⟨trivial, _, Zaj (l := []) (n := 6) rfl trivial (by kernel_rfl) (by kernel_rfl)⟩⟩
  intro hall
  show CW none _ _ _ _ _ _ _
  refine Z35 ?_
  refine Zn5 (by kernel_rfl) ?_
  refine Zal (p := pt 2 0) (v := slv 3 0 m m) rfl rfl rfl rfl ?_
  refine Zb (slv 3 0 m m) (Za (Zag (Zy0 (Zcy (Zt ?_)))))
  exact Zbc [0, 1, 3] (v := slv 3 0 m m) rfl (by kernel_rfl) rfl rfl (by decide) (by simp [Zbe, rwR, rfB, dsB, Zib, Zeg, Zi]) ⟨rfl, rfl, rfl, by first | omega | exact Nat.le_refl _ | exact Nat.zero_le _ | (dsimp only; omega), by first | omega | exact Nat.le_refl _ | exact Nat.zero_le _ | (dsimp only; omega)⟩
theorem Zuc (kk : Nat → BitVec 32) (hG : G 0 = some (Zah w32 64 kk)) (l : List Item) (m c : Nat) (hm : m ≤ l.length) (hc : m ≤ c) (hb : m ≤ 1048576) : Z6 Tryd.prog G 63 [.func (.func 72) #[] #[pt 1 0]] [rwR Zi l, rfB (slv 0 0 m c)] (slv 2 0 m m) [rwR Zi l, rfB (slv 0 0 m c), dsB (acL kk l m)] := by
  refine Zbh (fn := Tryd.f63) (nt := 5) rfl rfl rfl rfl ?_
  refine Zaf 1 (H' := [rwR Zi l, rfB (slv 0 0 m c), hole]) rfl ?_
  refine Zf (Zg (Zb (.slice none 0 0) (Za (Zc (Zf (Zg (Zd (.func (.func 72) #[] #[pt 1 0]) ?_)))))))
  refine Z5 (e := [some (0, 0), some (1, 0)]) (nid := 2) (Zws (G := G) kk hG l m c hm hc hb) (vals := [.slice none 0 0, .func (.func 72) #[] #[pt 1 0]]) (v := slv 2 0 m m) (H' := [rwR Zi l, rfB (slv 0 0 m c), dsB (acL kk l m)]) rfl rfl rfl rfl rfl rfl rfl ⟨⟨rfl, ⟨by simp [Ze6, Zc8, Zi6, idE], by kernel_rfl⟩, trivial⟩, ⟨(Zbr rfl), (Zad rfl rfl rfl rfl), trivial⟩, rfl, rfl, rfl⟩ (by kernel_rfl) (by kernel_rfl) ?_
  refine Zb (slv 2 0 m m) (Za (Zc (Zr (Zt ?_))))
  exact Zbc [0, 1, 2] (v := slv 2 0 m m) rfl (by kernel_rfl) rfl rfl (by decide) (by simp [Zbe, rwR, rfB, dsB, Zib, Zeg, Zi]) ⟨rfl, rfl, rfl, by first | omega | exact Nat.le_refl _ | exact Nat.zero_le _ | (dsimp only; omega), by first | omega | exact Nat.le_refl _ | exact Nat.zero_le _ | (dsimp only; omega)⟩
end Go.Flat
namespace Go.Flat
open Go.Proofs
variable {G : Glob}
def Zbu (kk : Nat → BitVec 32) (l : List Item) (k : Int) : List D × Int := if Ziu l then (if 0 ≤ k ∧ k ≤ l.length then (acL kk l k.toNat, 0) else ([], 21)) else ([], 100)
theorem Zza (kk : Nat → BitVec 32) (l : List Item) (k : Int) : (Zbu kk l k).1.length ≤ 2000 := by
 unfold Zbu
 split
 ·rename_i h
  split
  ·rename_i h2
   have := h.1
   show (acL kk l k.toNat).length ≤ 2000
   rw [Zks]; omega
  ·exact Nat.zero_le _
 ·exact Nat.zero_le _
def Zbf (kk : Nat → BitVec 32) (l : List Item) (k : Int) : D × Int := if (Zbu kk l k).2 = 0 then (Zfk kk (Zbu kk l k).1, 0) else (dz, (Zbu kk l k).2)
def Z7c (kk : Nat → BitVec 32) (l : List Item) (k region epoch tick : Int) : Head × Int := if (Zbf kk l k).2 = 0 then (if Za5 ⟨region, epoch, k, (Zbf kk l k).1, tick⟩ = 0 then (⟨region, epoch, k, (Zbf kk l k).1, tick⟩, 0) else (⟨0, 0, 0, dz, 0⟩, 100)) else (⟨0, 0, 0, dz, 0⟩, (Zbf kk l k).2)
def Z7u (kk : Nat → BitVec 32) (l : List Item) (k i : Int) : List D × Int := if (Zbu kk l k).2 = 0 then (if 0 ≤ i ∧ i < (Zbu kk l k).1.length then (Z5j kk (Zbu kk l k).1 i.toNat, 0) else ([], 20)) else ([], (Zbu kk l k).2)
def Z7q (kk : Nat → BitVec 32) (l : List Item) (i k : Int) : List D × Int := if (Zbu kk l k).2 = 0 then (if 0 ≤ i ∧ i ≤ (Zbu kk l k).1.length then (if i = 0 then ([], 0) else (Z5f kk (Zbu kk l k).1 i.toNat, 0)) else ([], 21)) else ([], (Zbu kk l k).2)
theorem Zzb (kk : Nat → BitVec 32) (hG : G 0 = some (Zah w32 64 kk)) (l : List Item) (n c : Nat) (hn : l.length = n) (hc : n ≤ c) (hb : n ≤ 1048576) (k : Int) : Z6 Tryd.prog G 51 [slv 0 0 n c, Iv k] [rwR Zi l] (.tuple #[slv 1 0 (Zbu kk l k).1.length (Zbu kk l k).1.length, Iv (Zbu kk l k).2]) [rwR Zi l, dsB (Zbu kk l k).1] := by
  refine Zbh (fn := Tryd.f51) (nt := 21) rfl rfl rfl rfl ?_
  refine Zaf 2 (H' := [rwR Zi l, hole, hole]) rfl ?_
  refine Zf (Zg (Zb (.slice none 0 0) (Zb (Iv 0) (Za (Zc (Zf (Z8 (Zf (Zg (Zd (slv 0 0 n c) ?_))))))))))
  refine Z5 (e := [some (0, 0)]) (nid := 0) (Zpq (G := G) l n c hn (by omega) (by omega)) (vals := [slv 0 0 n c]) (v := Iv (Zj5 l)) (H' := [rwR Zi l, hole, hole]) rfl rfl rfl rfl rfl rfl rfl ⟨⟨⟨rfl, rfl, rfl, by first | omega | exact Nat.le_refl _, by first | omega | exact Nat.le_refl _⟩, trivial⟩, ⟨(Zbr rfl), trivial⟩, rfl, rfl, rfl⟩ rfl (by kernel_rfl) ?_
  by_cases h1 : (Zj5 l) ≠ 0
  refine Zl (vx := Iv (Zj5 l)) (vy := Iv 0) rfl rfl (.bool true) rfl rfl (Zgf (by omega)) ?_
  refine Zb (.bool true) (Za (Zc (Zy rfl (Zf (Zg (Zb (.slice none 0 0) (Zb (Iv 100) (Za (Zc ?_)))))))))
  refine Zca (Za7.nilTmp (i := 4) (b := 1) true 32 rfl (by decide) rfl) ?_
  refine Zr (Zar (Z2 (Zt ?_)))
  rw [show Zbu kk l k = ([], 100) from if_neg (Zfd (by omega))]
  exact Zbc [0, 1] (v := .tuple #[slv 1 0 0 0, Iv 100]) rfl (by kernel_rfl) rfl rfl (by decide) (by simp [Zbe, rwR, dsB, Zi]) ⟨⟨rfl, rfl, rfl, by first | omega | exact Nat.le_refl _ | exact Nat.zero_le _ | (dsimp only; omega), by first | omega | exact Nat.le_refl _ | exact Nat.zero_le _ | (dsimp only; omega)⟩, rfl, trivial⟩
  refine Zl (vx := Iv (Zj5 l)) (vy := Iv 0) rfl rfl (.bool false) rfl rfl (Zfw (by omega)) ?_
  refine Zb (.bool false) (Za (Zc (Zu rfl (Zf (Zg (Zd (Iv k) (Zd (slv 0 0 n c) (Zaw (p := slv 0 0 n c) (v := Iv (n : Nat)) ?_))))))))
  by_cases h2 : 0 ≤ k
  by_cases h3 : k ≤ (n : Nat)
  refine Zs ((Zf0 (G := G) k 0 (n : Nat)).res (congrArg Value.bool (Zbq (by omega) (by omega)))) (vals := [Iv k, Iv 0, Iv (n : Nat)]) (res' := .bool true) rfl rfl rfl rfl rfl rfl ?_
  refine Zfb (vx := .bool true) rfl rfl (.bool false) rfl Zcq ?_
  refine Zb (.bool false) (Za (Zc (Zu rfl (Zz (Z7 (Zc (Zf ?_)))))))
  obtain ⟨q, rfl⟩ : ∃ x0 : Nat, k = (x0 : Int) := ⟨k.toNat, by omega⟩
  refine Zg (Zd (slv 0 0 n c) (Zd (Iv (q : Nat)) ?_))
  refine Zcz (p := slv 0 0 n c) (vl := none) (vh := some (Iv (q : Nat))) (v := slv 0 0 q c) rfl rfl rfl rfl rfl (Zjp (h := q) rfl rfl (by omega) (by omega) rfl) ?_
  refine Z5 (e := [some (0, 0)]) (nid := 1) (Zxj (G := G) l q c (by have := hn; omega) (by omega) (by omega)) (vals := [slv 0 0 q c]) (v := .func (.func 72) #[] #[pt 1 0]) (H' := [rwR Zi l, rfB (slv 0 0 q c), hole]) rfl rfl rfl rfl rfl rfl rfl ⟨⟨⟨rfl, rfl, rfl, by omega, by omega⟩, trivial⟩, ⟨(Zbr rfl), trivial⟩, rfl, rfl, rfl⟩ (by kernel_rfl) (by kernel_rfl) ?_
  refine Z5 (e := [some (0, 0), some (1, 0)]) (nid := 2) (Zuc (G := G) kk hG l q c (by have := hn; omega) (by omega) (by omega)) (vals := [.func (.func 72) #[] #[pt 1 0]]) (v := slv 2 0 q q) (H' := [rwR Zi l, rfB (slv 0 0 q c), dsB (acL kk l q)]) rfl rfl rfl rfl rfl rfl rfl ⟨⟨⟨by simp [Ze6, Zc8, Zi6, idE], by kernel_rfl⟩, trivial⟩, ⟨(Zbr rfl), (Zad rfl rfl rfl rfl), trivial⟩, rfl, rfl, rfl⟩ (by kernel_rfl) (by kernel_rfl) ?_
  refine Zb (slv 2 0 q q) (Zb (Iv 0) (Za (Zc (Zr (Zt ?_)))))
  rw [show Zbu kk l ((q : Nat) : Int) = (acL kk l q, 0) from by unfold Zbu; rw [if_pos (Zg0 (by omega)), if_pos (by omega)]; rfl]
  rw [show (acL kk l q, (0 : Int)).1.length = q from Zks kk l q]
  exact Zbc [0, 2] (v := .tuple #[slv 2 0 q q, Iv 0]) rfl (by kernel_rfl) rfl rfl (by decide) (by simp [Zbe, rwR, dsB, Zi]) ⟨⟨rfl, rfl, rfl, by first | omega | exact Nat.le_refl _ | exact Nat.zero_le _ | (dsimp only; omega), by first | omega | exact Nat.le_refl _ | exact Nat.zero_le _ | (dsimp only; omega)⟩, rfl, trivial⟩
  refine Zs ((Zf0 (G := G) k 0 (n : Nat)).res (congrArg Value.bool (Zac (by omega)))) (vals := [Iv k, Iv 0, Iv (n : Nat)]) (res' := .bool false) rfl rfl rfl rfl rfl rfl ?_
  refine Zfb (vx := .bool false) rfl rfl (.bool true) rfl Zcq ?_
  refine Zb (.bool true) (Za (Zc (Zy rfl (Zf (Zg (Zb (.slice none 0 0) (Zb (Iv 21) (Za (Zc ?_)))))))))
  refine Zca (Za7.nilTmp (i := 4) (b := 1) true 32 rfl (by decide) rfl) ?_
  refine Zr (Zar (Z2 (Zt ?_)))
  rw [show Zbu kk l k = ([], 21) from by unfold Zbu; rw [if_pos (Zg0 (by omega)), if_neg (by omega)]]
  exact Zbc [0, 1] (v := .tuple #[slv 1 0 0 0, Iv 21]) rfl (by kernel_rfl) rfl rfl (by decide) (by simp [Zbe, rwR, dsB, Zi]) ⟨⟨rfl, rfl, rfl, by first | omega | exact Nat.le_refl _ | exact Nat.zero_le _ | (dsimp only; omega), by first | omega | exact Nat.le_refl _ | exact Nat.zero_le _ | (dsimp only; omega)⟩, rfl, trivial⟩
  refine Zs ((Zf0 (G := G) k 0 (n : Nat)).res (congrArg Value.bool (Zac (by omega)))) (vals := [Iv k, Iv 0, Iv (n : Nat)]) (res' := .bool false) rfl rfl rfl rfl rfl rfl ?_
  refine Zfb (vx := .bool false) rfl rfl (.bool true) rfl Zcq ?_
  refine Zb (.bool true) (Za (Zc (Zy rfl (Zf (Zg (Zb (.slice none 0 0) (Zb (Iv 21) (Za (Zc ?_)))))))))
  refine Zca (Za7.nilTmp (i := 4) (b := 1) true 32 rfl (by decide) rfl) ?_
  refine Zr (Zar (Z2 (Zt ?_)))
  rw [show Zbu kk l k = ([], 21) from by unfold Zbu; rw [if_pos (Zg0 (by omega)), if_neg (by omega)]]
  exact Zbc [0, 1] (v := .tuple #[slv 1 0 0 0, Iv 21]) rfl (by kernel_rfl) rfl rfl (by decide) (by simp [Zbe, rwR, dsB, Zi]) ⟨⟨rfl, rfl, rfl, by first | omega | exact Nat.le_refl _ | exact Nat.zero_le _ | (dsimp only; omega), by first | omega | exact Nat.le_refl _ | exact Nat.zero_le _ | (dsimp only; omega)⟩, rfl, trivial⟩
theorem Zyc (kk : Nat → BitVec 32) (hG : G 0 = some (Zah w32 64 kk)) (hG1 : G 2 = some (Zah u8N 64 dbF)) (l : List Item) (n c : Nat) (hn : l.length = n) (hc : n ≤ c) (hb : n ≤ 1048576) (k : Int) : Z6 Tryd.prog G 40 [slv 0 0 n c, Iv k] [rwR Zi l] (.tuple #[dgV (Zbf kk l k).1, Iv (Zbf kk l k).2]) [rwR Zi l] := by
  refine Zbh (fn := Tryd.f40) (nt := 20) rfl rfl rfl rfl ?_
  refine Zaf 2 (H' := [rwR Zi l, hole, hole]) rfl ?_
  refine Zf (Zg (Za9 (b := dgB dz) (nid := 1) (H' := [rwR Zi l, dgB dz, hole]) (Zb (Iv 0) (Za (Zc (Zf (Zg (Zd (slv 0 0 n c) (Zd (Iv k) ?_)))))))))
  have hfl3 := Zza kk l k
  refine Z5 (e := [some (0, 0)]) (nid := 2) (Zzb (G := G) kk hG l n c hn (by omega) (by omega) k) (vals := [slv 0 0 n c, Iv k]) (v := .tuple #[slv 2 0 ((Zbu kk l k).1.length) ((Zbu kk l k).1.length), Iv ((Zbu kk l k).2)]) (H' := [rwR Zi l, dgB dz, dsB ((Zbu kk l k).1)]) rfl rfl rfl rfl rfl rfl rfl ⟨⟨⟨rfl, rfl, rfl, by first | omega | exact Nat.le_refl _, by first | omega | exact Nat.le_refl _⟩, rfl, trivial⟩, ⟨(Zbr rfl), trivial⟩, rfl, rfl, rfl⟩ (by kernel_rfl) (by kernel_rfl) ?_
  refine Zd (.tuple #[slv 2 0 ((Zbu kk l k).1.length) ((Zbu kk l k).1.length), Iv ((Zbu kk l k).2)]) (Z1 (vs := #[slv 2 0 ((Zbu kk l k).1.length) ((Zbu kk l k).1.length), Iv ((Zbu kk l k).2)]) (v := slv 2 0 ((Zbu kk l k).1.length) ((Zbu kk l k).1.length)) (Z1 (vs := #[slv 2 0 ((Zbu kk l k).1.length) ((Zbu kk l k).1.length), Iv ((Zbu kk l k).2)]) (v := Iv ((Zbu kk l k).2)) (Zb (slv 2 0 ((Zbu kk l k).1.length) ((Zbu kk l k).1.length)) (Zb (Iv ((Zbu kk l k).2)) (Za (Zc (Zf (Zf (Zg (Zd (Iv ((Zbu kk l k).2)) ?_))))))))))
  by_cases h1 : ((Zbu kk l k).2) ≠ 0
  refine Zl (vx := Iv ((Zbu kk l k).2)) (vy := Iv 0) rfl rfl (.bool true) rfl rfl (Zgf (by omega)) ?_
  refine Za (Zc (Zy rfl (Zf (Zg ?_))))
  refine Zdb (vs := []) (v := dgV dz) rfl rfl rfl (by kernel_rfl) ?_
  refine Zd (Iv ((Zbu kk l k).2)) (Zab (p := pt 1 0) (v := dgV dz) (b := 1) (blk := dgB dz) (H' := [rwR Zi l, dgB dz, dsB ((Zbu kk l k).1)]) (Zb (Iv ((Zbu kk l k).2)) (Za (Zc (Zr (Z2 (Zt ?_)))))))
  rw [show Zbf kk l k = (dz, (Zbu kk l k).2) from if_neg (by omega)]
  exact Zm (v := .tuple #[dgV dz, Iv ((Zbu kk l k).2)]) (by kernel_rfl) rfl rfl (by simp [Zbe, rwR, Zi]) ⟨(Ze7 (Ze1 fun _ => rfl) rfl), rfl, trivial⟩
  refine Zl (vx := Iv ((Zbu kk l k).2)) (vy := Iv 0) rfl rfl (.bool false) rfl rfl (Zfw (by omega)) ?_
  refine Za (Zc (Zu rfl (Zz (Zc (Zf (Zg (Zd (slv 2 0 ((Zbu kk l k).1.length) ((Zbu kk l k).1.length)) ?_)))))))
  refine Z5 (e := [some (2, 0)]) (nid := 0) (Zyg (G := G) kk hG hG1 ((Zbu kk l k).1) (c := ((Zbu kk l k).1.length)) (n := ((Zbu kk l k).1.length)) (rfl : _ = _) (by omega) (by omega) rfl) (vals := [slv 2 0 ((Zbu kk l k).1.length) ((Zbu kk l k).1.length)]) (v := dgV (Zfk kk ((Zbu kk l k).1))) (H' := [rwR Zi l, dgB dz, dsB ((Zbu kk l k).1)]) rfl rfl rfl rfl rfl rfl rfl ⟨⟨⟨rfl, rfl, rfl, by first | omega | exact Nat.le_refl _, by first | omega | exact Nat.le_refl _⟩, trivial⟩, ⟨(Z14 rfl), trivial⟩, rfl, rfl, rfl⟩ (by kernel_rfl) (by kernel_rfl) ?_
  refine Zab (p := pt 1 0) (v := dgV (Zfk kk ((Zbu kk l k).1))) (b := 1) (blk := dgB (Zfk kk ((Zbu kk l k).1))) (H' := [rwR Zi l, dgB (Zfk kk ((Zbu kk l k).1)), dsB ((Zbu kk l k).1)]) (Zb (Iv 0) (Za (Zc (Zr (Zt ?_)))))
  rw [show Zbf kk l k = (Zfk kk (Zbu kk l k).1, 0) from if_pos (by omega)]
  exact Zm (v := .tuple #[dgV (Zfk kk ((Zbu kk l k).1)), Iv 0]) (by kernel_rfl) rfl rfl (by simp [Zbe, rwR, Zi]) ⟨(Ze7 (Ze1 fun _ => rfl) rfl), rfl, trivial⟩
end Go.Flat
