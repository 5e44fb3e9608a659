/- Walks. -/
import Derived.Test.YtlnggiomppkjmaaDoorP2
import Derived.Test.YtlnggiomppkjmaaDoorFlatH
import Derived.Test.YtlnggiomppkjmaaDoorFlatG
set_option linter.unusedVariables false
set_option linter.unusedSimpArgs false
set_option maxRecDepth 20000
namespace Go.Flat
open Go.Proofs
variable {G : Glob}
def cDg : Cod D := ⟨fun d => Zah w8 32 d, 32, fun _ => rfl, by decide⟩
def acL (kk : Nat → BitVec 32) (l : List Item) : Nat → List D
  | 0 => []
  | k + 1 => acL kk l k ++ [(Zbn kk (l.getD k default)).1]
theorem Zkw (kk : Nat → BitVec 32) (l : List Item) : ∀ k, (acL kk l k).length = k
 | 0 => rfl
 | k + 1 => by rw [acL, List.length_append, Zkw kk l k]; rfl
theorem Zxo (l : List Item) (m c : Nat) (hm : m ≤ l.length) (hc : m ≤ c) (hb : m ≤ 1048576) : Z6 Tryd.prog G 64 [slv 0 0 m c] [rwR Zj l] (.func (.func 72) #[] #[pt 1 0]) [rwR Zj l, rfB (slv 0 0 m c)] := by
 refine Zbh (fn := Tryd.f64) (nt := 4) rfl rfl rfl rfl ?_
 refine Zag 1 (H' := [rwR Zj l, hole]) rfl ?_
 refine Zf (Zg (Zb4 (v := slv 0 0 m c) (b := rfB (slv 0 0 m c)) (nid := 1) (H' := [rwR Zj l, rfB (slv 0 0 m c)]) (Zb .nilFunc (Za (Zc (Zf (Zg ?_)))))))
 refine Zgz (vs := []) (ws := [pt 1 0]) rfl rfl rfl rfl rfl ?_
 refine Zb (.func (.func 72) #[] #[pt 1 0]) (Za (Zc (Zr (Zu ?_))))
 exact Zbd [0, 1] (v := .func (.func 72) #[] #[pt 1 0]) rfl (by kernel_rfl) rfl rfl (by decide) (by simp [Zbf, rwR, rfB, Zic, Zef, Zj]) ⟨by simp [Ze6, Zc9, Zi8, idE], by kernel_rfl⟩
theorem Zsv (kk : Nat → BitVec 32) (hG : G 0 = some (Zah w32 64 kk)) (l : List Item) (m c : Nat) (hm : m ≤ l.length) (hc : m ≤ c) (hb : m ≤ 1048576) : Zyg Tryd.prog G 72 [pt 1 0] m (fun k => [dgV ((Zbn kk (l.getD k default)).1)]) [rwR Zj l, rfB (slv 0 0 m c), rfB (slv 3 0 0 0), dsB (acL kk l 0)] (fun k => [rwR Zj l, rfB (slv 0 0 m c), rfB (slv 3 0 k k), dsB (acL kk l k), bxB 110 (Zb7 (l.getD k default)), dgB ((Zbn kk (l.getD k default)).1)]) (fun k => [rwR Zj l, rfB (slv 0 0 m c), rfB (slv 3 0 (k + 1) (k + 1)), dsB (acL kk l (k + 1)), bxB 110 (Zb7 (l.getD k default)), dgB ((Zbn kk (l.getD k default)).1)]) (fun _ => True) [rwR Zj l, rfB (slv 0 0 m c), rfB (slv 3 0 m m), dsB (acL kk l m)] := by
 refine Zui (fn := Tryd.f72) rfl rfl (nt := 23) rfl rfl rfl ?_
 intro E l' Stop hE hd hY
 refine Zje ?_
 refine Zn8 (by kernel_rfl) ?_
 refine Zae (p := pt 1 0) (v := slv 0 0 m c) rfl rfl rfl rfl ?_
 refine Zav (p := slv 0 0 m c) (v := Iv (m : Nat)) (Zd (Iv 0) (Za (Zak (Zsb ?_))))
 refine Z12 hE (fun k : Nat => [.func (.yield l') #[] #[], pt 1 0, dead, dead, dead, dead, dead, slv 0 0 m c, Iv (m : Nat), Iv (k : Nat)]) (fun k : Nat => [rwR Zj l, rfB (slv 0 0 m c), rfB (slv 3 0 k k), dsB (acL kk l k)]) (fun k : Nat => k ≤ m) (fun k : Nat => m - k) 0 (Nat.zero_le _) ?_ ?_
 ·refine Zaj (n := 4) rfl ?_ (by kernel_rfl) (by kernel_rfl)
  repeat (first | exact trivial | refine ⟨.inl rfl, ?_⟩ | refine ⟨.inr ⟨rfl, rfl⟩, ?_⟩ | refine ⟨.inr ⟨congrArg (Value.int .i64) (by first | omega | (dsimp only; omega)), rfl⟩, ?_⟩)
 rintro k hk
 refine Z11 hE 2 (H' := [rwR Zj l, rfB (slv 0 0 m c), rfB (slv 3 0 k k), dsB (acL kk l k), hole, hole]) rfl ?_
 have hks : ∀ j, j < k → True := fun _ _ => trivial
 refine Zje ?_
 refine Zn8 (by kernel_rfl) ?_
 by_cases h1 : (k : Nat) < (m : Nat)
 refine Zm (vx := Iv (k : Nat)) (vy := Iv (m : Nat)) rfl rfl (.bool true) rfl rfl (Zcz (by omega)) ?_
 refine Za (Zak (Zje (Z13 rfl (Zwa (Zak (Zje (Zsb (Zje ?_))))))))
 refine Zn8 (by kernel_rfl) ?_
 refine Zbb (b := 0) (o := 0) (j := k * 110) (m := m) (c := c) (sz := 110) (i := (k : Nat)) (k := .i64) rfl rfl rfl rfl rfl (by omega) (by omega) (by omega) ?_
 refine Zae (p := pt 0 (k * 110)) (v := Zcy (l.getD k default)) rfl rfl rfl (Zhq (n := 0) (m := 110) Zj rfl rfl rfl rfl (by omega) (by omega)) ?_
 refine Za9 (b := bxB 110 (Zb7 (⟨0, (⟨0, 0, 0, ⟨#[]⟩, (⟨(⟨0, 0, 0, dz, 0⟩ : Head), 0, dz⟩ : Signed), (⟨0, 0, 0, 0, dz⟩ : Claim)⟩ : Entry)⟩ : Item))) (nid := 4) (H' := [rwR Zj l, rfB (slv 0 0 m c), rfB (slv 3 0 k k), dsB (acL kk l k), bxB 110 (Zb7 (⟨0, (⟨0, 0, 0, ⟨#[]⟩, (⟨(⟨0, 0, 0, dz, 0⟩ : Head), 0, dz⟩ : Signed), (⟨0, 0, 0, 0, dz⟩ : Claim)⟩ : Entry)⟩ : Item)), hole]) (Zab (p := pt 4 0) (v := Zcy (l.getD k default)) (b := 4) (blk := bxB 110 (Zb7 (l.getD k default))) (H' := [rwR Zj l, rfB (slv 0 0 m c), rfB (slv 3 0 k k), dsB (acL kk l k), bxB 110 (Zb7 (l.getD k default)), hole]) (Za (Zak (Zje ?_))))
 refine Zn8 (by kernel_rfl) ?_
 refine Zo (p := pt 4 0) (v := Zcy (l.getD k default)) ?_
 refine Zs (Z1h (G := G) kk hG (l.getD k default)) (vals := [Zcy (l.getD k default)]) (res' := .tuple #[dgV ((Zbn kk (l.getD k default)).1), Iv ((Zbn kk (l.getD k default)).2)]) rfl rfl rfl rfl rfl (by kernel_rfl) ?_
 refine Zd (.tuple #[dgV ((Zbn kk (l.getD k default)).1), Iv ((Zbn kk (l.getD k default)).2)]) (Z1 (vs := #[dgV ((Zbn kk (l.getD k default)).1), Iv ((Zbn kk (l.getD k default)).2)]) (v := dgV ((Zbn kk (l.getD k default)).1)) (Z1 (vs := #[dgV ((Zbn kk (l.getD k default)).1), Iv ((Zbn kk (l.getD k default)).2)]) (v := Iv ((Zbn kk (l.getD k default)).2)) (Za9 (b := dgB dz) (nid := 5) (H' := [rwR Zj l, rfB (slv 0 0 m c), rfB (slv 3 0 k k), dsB (acL kk l k), bxB 110 (Zb7 (l.getD k default)), dgB dz]) (Zab (p := pt 5 0) (v := dgV ((Zbn kk (l.getD k default)).1)) (b := 5) (blk := dgB ((Zbn kk (l.getD k default)).1)) (H' := [rwR Zj l, rfB (slv 0 0 m c), rfB (slv 3 0 k k), dsB (acL kk l k), bxB 110 (Zb7 (l.getD k default)), dgB ((Zbn kk (l.getD k default)).1)]) (Zb (Iv ((Zbn kk (l.getD k default)).2)) (Za (Zak (Zje ?_))))))))
 refine Zy4 (fun w' h => ⟨w', h, rfl⟩) 2 rfl rfl rfl (by kernel_rfl) ?_
 refine Zd (.func (.yield l') #[] #[]) (Zo (p := pt 5 0) (v := dgV ((Zbn kk (l.getD k default)).1)) ?_)
 refine Zrd ?_
 show Zvn _ _ _ _ _ _ _ _ _ _ _ _ _
 unfold Zvn
 refine ⟨l', [dgV ((Zbn kk (l.getD k default)).1)], [rwR Zj l, rfB (slv 0 0 m c), rfB (slv 3 0 (k + 1) (k + 1)), dsB (acL kk l (k + 1)), bxB 110 (Zb7 (l.getD k default)), dgB ((Zbn kk (l.getD k default)).1)], True, rfl, rfl, by decide, hY k (by omega) hks, fun hok => ?_, ?_⟩
 refine Zgj (vx := .bool true) rfl rfl (.bool false) rfl Zdd ?_
 refine Za (Zak (Zsc rfl (Zwa (Z7 (Zak ?_)))))
 refine Zn8 (by kernel_rfl) ?_
 refine Zm (vx := Iv (k : Nat)) (vy := Iv 1) rfl rfl (Iv ((k : Nat) + 1)) rfl rfl (Zal (by omega) (by omega) (by omega)) ?_
 refine Zd (Iv ((k : Nat) + 1)) (Za ?_)
 refine Zak ⟨(k + 1), (show k + 1 ≤ m by omega), by show m - (k + 1) < m - k; omega, ?_⟩
 refine Zaj (n := 4) rfl ?_ (by kernel_rfl) (by kernel_rfl)
 repeat (first | exact trivial | refine ⟨.inl rfl, ?_⟩ | refine ⟨.inr ⟨rfl, rfl⟩, ?_⟩ | refine ⟨.inr ⟨congrArg (Value.int .i64) (by first | omega | (dsimp only; omega)), rfl⟩, ?_⟩)
 refine Zgj (vx := .bool false) rfl rfl (.bool true) rfl Zdd ?_
 refine Za (Zak (Z1z rfl (Zy3 (Zao (Zcr (Zcr (Zao ?_)))))))
 exact ⟨.inr rfl⟩
 refine Zm (vx := Iv (k : Nat)) (vy := Iv (m : Nat)) rfl rfl (.bool false) rfl rfl (Zcv (by omega)) ?_
 refine Za (Zak (Zje (Zsc rfl (Z10 (Zay (Zay (Za0 rfl ?_)))))))
 obtain rfl : k = m := by omega
 exact ⟨⟨.inl rfl, fun _ _ => trivial, _, Zaj (l := []) (n := 4) rfl trivial (by kernel_rfl) (by kernel_rfl)⟩⟩
theorem Zwx (kk : Nat → BitVec 32) (hG : G 0 = some (Zah w32 64 kk)) (l : List Item) (m c : Nat) (hm : m ≤ l.length) (hc : m ≤ c) (hb : m ≤ 1048576) : Z6 Tryd.prog G 71 [.slice none 0 0, .func (.func 72) #[] #[pt 1 0]] [rwR Zj l, rfB (slv 0 0 m c)] (slv 2 0 m m) [rwR Zj l, rfB (slv 0 0 m c), dsB (acL kk l m)] := by
  refine Z6.introM (fn := Tryd.f71) rfl rfl (nt := 13) rfl rfl ?_
  refine Zua (Zy1 ?_)
  refine Zv8 2 (H' := [rwR Zj l, rfB (slv 0 0 m c), hole, hole]) rfl ?_
  refine Zn7 (by kernel_rfl) ?_
  refine Zb4 (v := .slice none 0 0) (b := rfB (.slice none 0 0)) (nid := 2) (H' := [rwR Zj l, rfB (slv 0 0 m c), rfB (.slice none 0 0), hole]) (Zb (.slice none 0 0) (Za (Zak (Zua (Zua (Zy1 ?_))))))
  refine Zv9 (Zba.nilCell (k := 2) (j := 0) (b := 3) true 32 rfl (by decide) rfl (by show 0 < 1; decide) rfl rfl) ?_
  refine Zn7 (by kernel_rfl) ?_
  refine Zd (.func (.func 72) #[] #[pt 1 0]) (Za (Zak ?_))
  have hiter := Zsv (G := G) kk hG l m c hm hc hb
  refine Zy0 (lbs := #[pt 1 0]) (iter := hiter) rfl rfl rfl (by intro _ _; rfl) (by kernel_rfl) ?_ ?_
  · intro lp k hk hks
    refine Zv8 2 (H' := [rwR Zj l, rfB (slv 0 0 m c), rfB (slv 3 0 k k), dsB (acL kk l k), bxB 110 (Zb7 (l.getD k default)), dgB ((Zbn kk (l.getD k default)).1), hole, hole]) rfl ?_
    refine Zn7 (by kernel_rfl) ?_
    refine Za9 (b := dgB dz) (nid := 6) (H' := [rwR Zj l, rfB (slv 0 0 m c), rfB (slv 3 0 k k), dsB (acL kk l k), bxB 110 (Zb7 (l.getD k default)), dgB ((Zbn kk (l.getD k default)).1), dgB dz, hole]) (Zab (p := pt 6 0) (v := dgV ((Zbn kk (l.getD k default)).1)) (b := 6) (blk := dgB ((Zbn kk (l.getD k default)).1)) (H' := [rwR Zj l, rfB (slv 0 0 m c), rfB (slv 3 0 k k), dsB (acL kk l k), bxB 110 (Zb7 (l.getD k default)), dgB ((Zbn kk (l.getD k default)).1), dgB ((Zbn kk (l.getD k default)).1), hole]) (Za (Zak (Zy2 ?_))))
    refine Zn7 (by kernel_rfl) ?_
    refine Zae (p := pt 2 0) (v := slv 3 0 k k) rfl rfl rfl rfl ?_
    refine Zo (p := pt 6 0) (v := dgV ((Zbn kk (l.getD k default)).1)) ?_
    refine Zen (vs := [(0, dgV ((Zbn kk (l.getD k default)).1))]) (v := slv 7 0 1 1) (blk := dsB [(Zbn kk (l.getD k default)).1]) (nid := 7) (H' := [rwR Zj l, rfB (slv 0 0 m c), rfB (slv 3 0 k k), dsB (acL kk l k), bxB 110 (Zb7 (l.getD k default)), dgB ((Zbn kk (l.getD k default)).1), dgB ((Zbn kk (l.getD k default)).1), dsB [(Zbn kk (l.getD k default)).1]]) rfl rfl rfl (by kernel_rfl) (by kernel_rfl) ?_
    have hl1 : ((acL kk l k) ++ [(Zbn kk (l.getD k default)).1]).length = k + 1 := by have := (Zkw kk l k); have := (rfl : _ = 1); first | (rw [List.length_append]; omega) | (rw [List.length_append, List.length_take]; omega) | (simp; omega) | simp
    refine Zc7 (p := slv 3 0 k k) (q := slv 7 0 1 1) (v := slv 3 0 (k + 1) (k + 1)) (b := 3) (blk := dsB ((acL kk l k) ++ [(Zbn kk (l.getD k default)).1])) (H' := [rwR Zj l, rfB (slv 0 0 m c), rfB (dead), dsB ((acL kk l k) ++ [(Zbn kk (l.getD k default)).1]), bxB 110 (Zb7 (l.getD k default)), dgB ((Zbn kk (l.getD k default)).1), dgB ((Zbn kk (l.getD k default)).1), dsB [(Zbn kk (l.getD k default)).1]]) rfl rfl rfl (.inl ⟨_, rfl⟩) rfl rfl (Zii cDg (by_ := 32) (k := 1) (n' := k + 1) (ms := [(Zbn kk (l.getD k default)).1]) (fun _ => rfl) rfl rfl (by kernel_rfl) rfl rfl (by have := (Zkw kk l k); omega) (by omega) (by decide) (by omega)) rfl (by kernel_rfl) ?_
    refine Zab (p := pt 2 0) (v := slv 3 0 (k + 1) (k + 1)) (b := 2) (blk := rfB (slv 3 0 (k + 1) (k + 1))) (H' := [rwR Zj l, rfB (slv 0 0 m c), rfB (slv 3 0 (k + 1) (k + 1)), dsB ((acL kk l k) ++ [(Zbn kk (l.getD k default)).1]), bxB 110 (Zb7 (l.getD k default)), dgB ((Zbn kk (l.getD k default)).1), dgB ((Zbn kk (l.getD k default)).1), dsB [(Zbn kk (l.getD k default)).1]]) (Za (Z7 ?_))
    exact ⟨⟨trivial, _, Zaj (l := []) (n := 6) rfl trivial (by kernel_rfl) (by kernel_rfl)⟩⟩
  intro hall
  show CW none _ _ _ _ _ _ _
  refine Z4a ?_
  refine Zn7 (by kernel_rfl) ?_
  refine Zae (p := pt 2 0) (v := slv 3 0 m m) rfl rfl rfl rfl ?_
  refine Zb (slv 3 0 m m) (Za (Zak (Zy3 (Zcr (Zu ?_)))))
  exact Zbd [0, 1, 3] (v := slv 3 0 m m) rfl (by kernel_rfl) rfl rfl (by decide) (by simp [Zbf, rwR, rfB, dsB, Zic, Zef, Zj]) ⟨rfl, rfl, rfl, by first | omega | exact Nat.le_refl _ | exact Nat.zero_le _ | (dsimp only; omega), by first | omega | exact Nat.le_refl _ | exact Nat.zero_le _ | (dsimp only; omega)⟩
theorem Zub (kk : Nat → BitVec 32) (hG : G 0 = some (Zah w32 64 kk)) (l : List Item) (m c : Nat) (hm : m ≤ l.length) (hc : m ≤ c) (hb : m ≤ 1048576) : Z6 Tryd.prog G 63 [.func (.func 72) #[] #[pt 1 0]] [rwR Zj l, rfB (slv 0 0 m c)] (slv 2 0 m m) [rwR Zj l, rfB (slv 0 0 m c), dsB (acL kk l m)] := by
  refine Zbh (fn := Tryd.f63) (nt := 5) rfl rfl rfl rfl ?_
  refine Zag 1 (H' := [rwR Zj l, rfB (slv 0 0 m c), hole]) rfl ?_
  refine Zf (Zg (Zb (.slice none 0 0) (Za (Zc (Zf (Zg (Zd (.func (.func 72) #[] #[pt 1 0]) ?_)))))))
  refine Z5 (e := [some (0, 0), some (1, 0)]) (nid := 2) (Zwx (G := G) kk hG l m c hm hc hb) (vals := [.slice none 0 0, .func (.func 72) #[] #[pt 1 0]]) (v := slv 2 0 m m) (H' := [rwR Zj l, rfB (slv 0 0 m c), dsB (acL kk l m)]) rfl rfl rfl rfl rfl rfl rfl ⟨⟨rfl, ⟨by simp [Ze6, Zc9, Zi8, idE], by kernel_rfl⟩, trivial⟩, ⟨(Zbq rfl), (Zad rfl rfl rfl rfl), trivial⟩, rfl, rfl, rfl⟩ (by kernel_rfl) (by kernel_rfl) ?_
  refine Zb (slv 2 0 m m) (Za (Zc (Zr (Zu ?_))))
  exact Zbd [0, 1, 2] (v := slv 2 0 m m) rfl (by kernel_rfl) rfl rfl (by decide) (by simp [Zbf, rwR, rfB, dsB, Zic, Zef, Zj]) ⟨rfl, rfl, rfl, by first | omega | exact Nat.le_refl _ | exact Nat.zero_le _ | (dsimp only; omega), by first | omega | exact Nat.le_refl _ | exact Nat.zero_le _ | (dsimp only; omega)⟩
end Go.Flat
namespace Go.Flat
open Go.Proofs
variable {G : Glob}
def Zbu (kk : Nat → BitVec 32) (l : List Item) (k : Int) : List D × Int := if Zix l then (if 0 ≤ k ∧ k ≤ l.length then (acL kk l k.toNat, 0) else ([], 21)) else ([], 100)
theorem Zzd (kk : Nat → BitVec 32) (l : List Item) (k : Int) : (Zbu kk l k).1.length ≤ 2000 := by
 unfold Zbu
 split
 ·rename_i h
  split
  ·rename_i h2
   have := h.1
   show (acL kk l k.toNat).length ≤ 2000
   rw [Zkw]; omega
  ·exact Nat.zero_le _
 ·exact Nat.zero_le _
def Zbg (kk : Nat → BitVec 32) (l : List Item) (k : Int) : D × Int := if (Zbu kk l k).2 = 0 then (Zfl kk (Zbu kk l k).1, 0) else (dz, (Zbu kk l k).2)
def Z7e (kk : Nat → BitVec 32) (l : List Item) (k region epoch tick : Int) : Head × Int := if (Zbg kk l k).2 = 0 then (if Za6 ⟨region, epoch, k, (Zbg kk l k).1, tick⟩ = 0 then (⟨region, epoch, k, (Zbg kk l k).1, tick⟩, 0) else (⟨0, 0, 0, dz, 0⟩, 100)) else (⟨0, 0, 0, dz, 0⟩, (Zbg kk l k).2)
def Z7v (kk : Nat → BitVec 32) (l : List Item) (k i : Int) : List D × Int := if (Zbu kk l k).2 = 0 then (if 0 ≤ i ∧ i < (Zbu kk l k).1.length then (Z5l kk (Zbu kk l k).1 i.toNat, 0) else ([], 20)) else ([], (Zbu kk l k).2)
def Z7r (kk : Nat → BitVec 32) (l : List Item) (i k : Int) : List D × Int := if (Zbu kk l k).2 = 0 then (if 0 ≤ i ∧ i ≤ (Zbu kk l k).1.length then (if i = 0 then ([], 0) else (Z5h kk (Zbu kk l k).1 i.toNat, 0)) else ([], 21)) else ([], (Zbu kk l k).2)
theorem Zze (kk : Nat → BitVec 32) (hG : G 0 = some (Zah w32 64 kk)) (l : List Item) (n c : Nat) (hn : l.length = n) (hc : n ≤ c) (hb : n ≤ 1048576) (k : Int) : Z6 Tryd.prog G 51 [slv 0 0 n c, Iv k] [rwR Zj l] (.tuple #[slv 1 0 (Zbu kk l k).1.length (Zbu kk l k).1.length, Iv (Zbu kk l k).2]) [rwR Zj l, dsB (Zbu kk l k).1] := by
  refine Zbh (fn := Tryd.f51) (nt := 21) rfl rfl rfl rfl ?_
  refine Zag 2 (H' := [rwR Zj l, hole, hole]) rfl ?_
  refine Zf (Zg (Zb (.slice none 0 0) (Zb (Iv 0) (Za (Zc (Zf (Z8 (Zf (Zg (Zd (slv 0 0 n c) ?_))))))))))
  refine Z5 (e := [some (0, 0)]) (nid := 0) (Zpn (G := G) l n c hn (by omega) (by omega)) (vals := [slv 0 0 n c]) (v := Iv (Zj5 l)) (H' := [rwR Zj l, hole, hole]) rfl rfl rfl rfl rfl rfl rfl ⟨⟨⟨rfl, rfl, rfl, by first | omega | exact Nat.le_refl _, by first | omega | exact Nat.le_refl _⟩, trivial⟩, ⟨(Zbq rfl), trivial⟩, rfl, rfl, rfl⟩ rfl (by kernel_rfl) ?_
  by_cases h1 : (Zj5 l) ≠ 0
  refine Zm (vx := Iv (Zj5 l)) (vy := Iv 0) rfl rfl (.bool true) rfl rfl (Zgd (by omega)) ?_
  refine Zb (.bool true) (Za (Zc (Zz rfl (Zf (Zg (Zb (.slice none 0 0) (Zb (Iv 100) (Za (Zc ?_)))))))))
  refine Zb8 (Zba.nilTmp (i := 4) (b := 1) true 32 rfl (by decide) rfl) ?_
  refine Zr (Zao (Z3 (Zu ?_)))
  rw [show Zbu kk l k = ([], 100) from if_neg (Zfe (by omega))]
  exact Zbd [0, 1] (v := .tuple #[slv 1 0 0 0, Iv 100]) rfl (by kernel_rfl) rfl rfl (by decide) (by simp [Zbf, rwR, dsB, Zj]) ⟨⟨rfl, rfl, rfl, by first | omega | exact Nat.le_refl _ | exact Nat.zero_le _ | (dsimp only; omega), by first | omega | exact Nat.le_refl _ | exact Nat.zero_le _ | (dsimp only; omega)⟩, rfl, trivial⟩
  refine Zm (vx := Iv (Zj5 l)) (vy := Iv 0) rfl rfl (.bool false) rfl rfl (Zft (by omega)) ?_
  refine Zb (.bool false) (Za (Zc (Zt rfl (Zf (Zg (Zd (Iv k) (Zd (slv 0 0 n c) (Zav (p := slv 0 0 n c) (v := Iv (n : Nat)) ?_))))))))
  by_cases h2 : 0 ≤ k
  by_cases h3 : k ≤ (n : Nat)
  refine Zs ((Zfz (G := G) k 0 (n : Nat)).res (congrArg Value.bool (Zbo (by omega) (by omega)))) (vals := [Iv k, Iv 0, Iv (n : Nat)]) (res' := .bool true) rfl rfl rfl rfl rfl rfl ?_
  refine Zgj (vx := .bool true) rfl rfl (.bool false) rfl Zdd ?_
  refine Zb (.bool false) (Za (Zc (Zt rfl (Zy (Z7 (Zc (Zf ?_)))))))
  obtain ⟨q, rfl⟩ : ∃ x0 : Nat, k = (x0 : Int) := ⟨k.toNat, by omega⟩
  refine Zg (Zd (slv 0 0 n c) (Zd (Iv (q : Nat)) ?_))
  refine Zc0 (p := slv 0 0 n c) (vl := none) (vh := some (Iv (q : Nat))) (v := slv 0 0 q c) rfl rfl rfl rfl rfl (Zjp (h := q) rfl rfl (by omega) (by omega) rfl) ?_
  refine Z5 (e := [some (0, 0)]) (nid := 1) (Zxo (G := G) l q c (by have := hn; omega) (by omega) (by omega)) (vals := [slv 0 0 q c]) (v := .func (.func 72) #[] #[pt 1 0]) (H' := [rwR Zj l, rfB (slv 0 0 q c), hole]) rfl rfl rfl rfl rfl rfl rfl ⟨⟨⟨rfl, rfl, rfl, by omega, by omega⟩, trivial⟩, ⟨(Zbq rfl), trivial⟩, rfl, rfl, rfl⟩ (by kernel_rfl) (by kernel_rfl) ?_
  refine Z5 (e := [some (0, 0), some (1, 0)]) (nid := 2) (Zub (G := G) kk hG l q c (by have := hn; omega) (by omega) (by omega)) (vals := [.func (.func 72) #[] #[pt 1 0]]) (v := slv 2 0 q q) (H' := [rwR Zj l, rfB (slv 0 0 q c), dsB (acL kk l q)]) rfl rfl rfl rfl rfl rfl rfl ⟨⟨⟨by simp [Ze6, Zc9, Zi8, idE], by kernel_rfl⟩, trivial⟩, ⟨(Zbq rfl), (Zad rfl rfl rfl rfl), trivial⟩, rfl, rfl, rfl⟩ (by kernel_rfl) (by kernel_rfl) ?_
  refine Zb (slv 2 0 q q) (Zb (Iv 0) (Za (Zc (Zr (Zu ?_)))))
  rw [show Zbu kk l ((q : Nat) : Int) = (acL kk l q, 0) from by unfold Zbu; rw [if_pos (Zg3 (by omega)), if_pos (by omega)]; rfl]
  rw [show (acL kk l q, (0 : Int)).1.length = q from Zkw kk l q]
  exact Zbd [0, 2] (v := .tuple #[slv 2 0 q q, Iv 0]) rfl (by kernel_rfl) rfl rfl (by decide) (by simp [Zbf, rwR, dsB, Zj]) ⟨⟨rfl, rfl, rfl, by first | omega | exact Nat.le_refl _ | exact Nat.zero_le _ | (dsimp only; omega), by first | omega | exact Nat.le_refl _ | exact Nat.zero_le _ | (dsimp only; omega)⟩, rfl, trivial⟩
  refine Zs ((Zfz (G := G) k 0 (n : Nat)).res (congrArg Value.bool (Zac (by omega)))) (vals := [Iv k, Iv 0, Iv (n : Nat)]) (res' := .bool false) rfl rfl rfl rfl rfl rfl ?_
  refine Zgj (vx := .bool false) rfl rfl (.bool true) rfl Zdd ?_
  refine Zb (.bool true) (Za (Zc (Zz rfl (Zf (Zg (Zb (.slice none 0 0) (Zb (Iv 21) (Za (Zc ?_)))))))))
  refine Zb8 (Zba.nilTmp (i := 4) (b := 1) true 32 rfl (by decide) rfl) ?_
  refine Zr (Zao (Z3 (Zu ?_)))
  rw [show Zbu kk l k = ([], 21) from by unfold Zbu; rw [if_pos (Zg3 (by omega)), if_neg (by omega)]]
  exact Zbd [0, 1] (v := .tuple #[slv 1 0 0 0, Iv 21]) rfl (by kernel_rfl) rfl rfl (by decide) (by simp [Zbf, rwR, dsB, Zj]) ⟨⟨rfl, rfl, rfl, by first | omega | exact Nat.le_refl _ | exact Nat.zero_le _ | (dsimp only; omega), by first | omega | exact Nat.le_refl _ | exact Nat.zero_le _ | (dsimp only; omega)⟩, rfl, trivial⟩
  refine Zs ((Zfz (G := G) k 0 (n : Nat)).res (congrArg Value.bool (Zac (by omega)))) (vals := [Iv k, Iv 0, Iv (n : Nat)]) (res' := .bool false) rfl rfl rfl rfl rfl rfl ?_
  refine Zgj (vx := .bool false) rfl rfl (.bool true) rfl Zdd ?_
  refine Zb (.bool true) (Za (Zc (Zz rfl (Zf (Zg (Zb (.slice none 0 0) (Zb (Iv 21) (Za (Zc ?_)))))))))
  refine Zb8 (Zba.nilTmp (i := 4) (b := 1) true 32 rfl (by decide) rfl) ?_
  refine Zr (Zao (Z3 (Zu ?_)))
  rw [show Zbu kk l k = ([], 21) from by unfold Zbu; rw [if_pos (Zg3 (by omega)), if_neg (by omega)]]
  exact Zbd [0, 1] (v := .tuple #[slv 1 0 0 0, Iv 21]) rfl (by kernel_rfl) rfl rfl (by decide) (by simp [Zbf, rwR, dsB, Zj]) ⟨⟨rfl, rfl, rfl, by first | omega | exact Nat.le_refl _ | exact Nat.zero_le _ | (dsimp only; omega), by first | omega | exact Nat.le_refl _ | exact Nat.zero_le _ | (dsimp only; omega)⟩, rfl, trivial⟩
theorem Zyf (kk : Nat → BitVec 32) (hG : G 0 = some (Zah w32 64 kk)) (hG1 : G 2 = some (Zah u8N 64 dbF)) (l : List Item) (n c : Nat) (hn : l.length = n) (hc : n ≤ c) (hb : n ≤ 1048576) (k : Int) : Z6 Tryd.prog G 40 [slv 0 0 n c, Iv k] [rwR Zj l] (.tuple #[dgV (Zbg kk l k).1, Iv (Zbg kk l k).2]) [rwR Zj l] := by
  refine Zbh (fn := Tryd.f40) (nt := 20) rfl rfl rfl rfl ?_
  refine Zag 2 (H' := [rwR Zj l, hole, hole]) rfl ?_
  refine Zf (Zg (Za9 (b := dgB dz) (nid := 1) (H' := [rwR Zj l, dgB dz, hole]) (Zb (Iv 0) (Za (Zc (Zf (Zg (Zd (slv 0 0 n c) (Zd (Iv k) ?_)))))))))
  have hfl3 := Zzd kk l k
  refine Z5 (e := [some (0, 0)]) (nid := 2) (Zze (G := G) kk hG l n c hn (by omega) (by omega) k) (vals := [slv 0 0 n c, Iv k]) (v := .tuple #[slv 2 0 ((Zbu kk l k).1.length) ((Zbu kk l k).1.length), Iv ((Zbu kk l k).2)]) (H' := [rwR Zj l, dgB dz, dsB ((Zbu kk l k).1)]) rfl rfl rfl rfl rfl rfl rfl ⟨⟨⟨rfl, rfl, rfl, by first | omega | exact Nat.le_refl _, by first | omega | exact Nat.le_refl _⟩, rfl, trivial⟩, ⟨(Zbq rfl), trivial⟩, rfl, rfl, rfl⟩ (by kernel_rfl) (by kernel_rfl) ?_
  refine Zd (.tuple #[slv 2 0 ((Zbu kk l k).1.length) ((Zbu kk l k).1.length), Iv ((Zbu kk l k).2)]) (Z1 (vs := #[slv 2 0 ((Zbu kk l k).1.length) ((Zbu kk l k).1.length), Iv ((Zbu kk l k).2)]) (v := slv 2 0 ((Zbu kk l k).1.length) ((Zbu kk l k).1.length)) (Z1 (vs := #[slv 2 0 ((Zbu kk l k).1.length) ((Zbu kk l k).1.length), Iv ((Zbu kk l k).2)]) (v := Iv ((Zbu kk l k).2)) (Zb (slv 2 0 ((Zbu kk l k).1.length) ((Zbu kk l k).1.length)) (Zb (Iv ((Zbu kk l k).2)) (Za (Zc (Zf (Zf (Zg (Zd (Iv ((Zbu kk l k).2)) ?_))))))))))
  by_cases h1 : ((Zbu kk l k).2) ≠ 0
  refine Zm (vx := Iv ((Zbu kk l k).2)) (vy := Iv 0) rfl rfl (.bool true) rfl rfl (Zgd (by omega)) ?_
  refine Za (Zc (Zz rfl (Zf (Zg ?_))))
  refine Zc5 (vs := []) (v := dgV dz) rfl rfl rfl (by kernel_rfl) ?_
  refine Zd (Iv ((Zbu kk l k).2)) (Zab (p := pt 1 0) (v := dgV dz) (b := 1) (blk := dgB dz) (H' := [rwR Zj l, dgB dz, dsB ((Zbu kk l k).1)]) (Zb (Iv ((Zbu kk l k).2)) (Za (Zc (Zr (Z3 (Zu ?_)))))))
  rw [show Zbg kk l k = (dz, (Zbu kk l k).2) from if_neg (by omega)]
  exact Zn (v := .tuple #[dgV dz, Iv ((Zbu kk l k).2)]) (by kernel_rfl) rfl rfl (by simp [Zbf, rwR, Zj]) ⟨(Ze7 (Zey fun _ => rfl) rfl), rfl, trivial⟩
  refine Zm (vx := Iv ((Zbu kk l k).2)) (vy := Iv 0) rfl rfl (.bool false) rfl rfl (Zft (by omega)) ?_
  refine Za (Zc (Zt rfl (Zy (Zc (Zf (Zg (Zd (slv 2 0 ((Zbu kk l k).1.length) ((Zbu kk l k).1.length)) ?_)))))))
  refine Z5 (e := [some (2, 0)]) (nid := 0) (Zyj (G := G) kk hG hG1 ((Zbu kk l k).1) (c := ((Zbu kk l k).1.length)) (n := ((Zbu kk l k).1.length)) (rfl : _ = _) (by omega) (by omega) rfl) (vals := [slv 2 0 ((Zbu kk l k).1.length) ((Zbu kk l k).1.length)]) (v := dgV (Zfl kk ((Zbu kk l k).1))) (H' := [rwR Zj l, dgB dz, dsB ((Zbu kk l k).1)]) rfl rfl rfl rfl rfl rfl rfl ⟨⟨⟨rfl, rfl, rfl, by first | omega | exact Nat.le_refl _, by first | omega | exact Nat.le_refl _⟩, trivial⟩, ⟨(Z19 rfl), trivial⟩, rfl, rfl, rfl⟩ (by kernel_rfl) (by kernel_rfl) ?_
  refine Zab (p := pt 1 0) (v := dgV (Zfl kk ((Zbu kk l k).1))) (b := 1) (blk := dgB (Zfl kk ((Zbu kk l k).1))) (H' := [rwR Zj l, dgB (Zfl kk ((Zbu kk l k).1)), dsB ((Zbu kk l k).1)]) (Zb (Iv 0) (Za (Zc (Zr (Zu ?_)))))
  rw [show Zbg kk l k = (Zfl kk (Zbu kk l k).1, 0) from if_pos (by omega)]
  exact Zn (v := .tuple #[dgV (Zfl kk ((Zbu kk l k).1)), Iv 0]) (by kernel_rfl) rfl rfl (by simp [Zbf, rwR, Zj]) ⟨(Ze7 (Zey fun _ => rfl) rfl), rfl, trivial⟩
end Go.Flat
