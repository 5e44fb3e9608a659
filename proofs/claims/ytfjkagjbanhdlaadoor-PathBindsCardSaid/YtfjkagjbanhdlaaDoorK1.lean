/- Walks. -/
import Derived.Test.YtfjkagjbanhdlaaDoorP2
import Derived.Test.YtfjkagjbanhdlaaDoorFlatH
import Derived.Test.YtfjkagjbanhdlaaDoorRef
import Derived.Test.YtfjkagjbanhdlaaDoorFlatG
set_option linter.unusedVariables false
set_option linter.unusedSimpArgs false
set_option maxRecDepth 20000
namespace Go.Flat
open Go.Proofs
variable {G : Glob}
def cDg : Cod D := ⟨fun d => Zac w8 32 d, 32, fun _ => rfl, by decide⟩
def acL (kk : Nat → BitVec 32) (l : List Item) : Nat → List D
  | 0 => []
  | k + 1 => acL kk l k ++ [(Z1 kk (l.getD k default)).1]
theorem Zfe (kk : Nat → BitVec 32) (l : List Item) : ∀ k, (acL kk l k).length = k
 | 0 => rfl
 | k + 1 => by rw [acL, List.length_append, Zfe kk l k]; rfl
theorem Zx7 (l : List Item) (m c : Nat) (hm : m ≤ l.length) (hc : m ≤ c) (hb : m ≤ 1048576) : Zae Tryd.prog G 61 [slv 0 0 m c] [rwR Zy l] (.func (.func 76) #[] #[pt 1 0]) [rwR Zy l, rfB (slv 0 0 m c)] := by
 refine Zbj (fn := Tryd.f61) (nt := 4) rfl rfl rfl rfl ?_
 refine Zaj 1 (H' := [rwR Zy l, hole]) rfl ?_
 refine Zf (Zg ?_)
 refine Zbr (v := slv 0 0 m c) (b := rfB (slv 0 0 m c)) (nid := 1) (H' := [rwR Zy l, rfB (slv 0 0 m c)]) rfl rfl rfl (by kernel_rfl) (by kernel_rfl) ?_
 refine Zc rfl rfl .nilFunc rfl (Za (Zb (Zf (Zg ?_))))
 refine Znn (vs := []) (ws := [pt 1 0]) rfl rfl rfl rfl rfl ?_
 refine Zc rfl rfl (.func (.func 76) #[] #[pt 1 0]) rfl (Za (Zb (Zt (Zu ?_))))
 exact Za7 [0, 1] (v := .func (.func 76) #[] #[pt 1 0]) rfl (by kernel_rfl) rfl rfl (by decide) (by simp [Za9, rwR, rfB, Zll, Zfu, Zy]) ⟨by simp [Zgq, Zdj, Zjl, idE], by kernel_rfl⟩
theorem Zta (kk : Nat → BitVec 32) (hG : G 0 = some (Zac w32 64 kk)) (l : List Item) (m c : Nat) (hm : m ≤ l.length) (hc : m ≤ c) (hb : m ≤ 1048576) : Z0e Tryd.prog G 76 [pt 1 0] m (fun k => [dgV ((Z1 kk (l.getD k default)).1)]) [rwR Zy l, rfB (slv 0 0 m c), rfB (slv 3 0 0 0), dsB (acL kk l 0)] (fun k => [rwR Zy l, rfB (slv 0 0 m c), rfB (slv 3 0 k k), dsB (acL kk l k), bxB 110 (Zh (l.getD k default)), dgB ((Z1 kk (l.getD k default)).1)]) (fun k => [rwR Zy l, rfB (slv 0 0 m c), rfB (slv 3 0 (k + 1) (k + 1)), dsB (acL kk l (k + 1)), bxB 110 (Zh (l.getD k default)), dgB ((Z1 kk (l.getD k default)).1)]) (fun _ => True) [rwR Zy l, rfB (slv 0 0 m c), rfB (slv 3 0 m m), dsB (acL kk l m)] := by
 refine Zwk (fn := Tryd.f76) rfl rfl (nt := 23) rfl rfl rfl ?_
 intro E l' Stop hE hd hY
 refine Zjr ?_
 refine Zqa (by kernel_rfl) ?_
 refine Zl (p := pt 1 0) (v := slv 0 0 m c) rfl rfl rfl rfl ?_
 refine Zbl (p := slv 0 0 m c) (v := Iv (m : Nat)) rfl rfl rfl rfl ?_
 refine Ze rfl rfl (Iv 0) rfl (Za (Zas (Zuw ?_)))
 refine Z2w hE (fun k : Nat => [.func (.yield l') #[] #[], pt 1 0, dead, dead, dead, dead, dead, slv 0 0 m c, Iv (m : Nat), Iv (k : Nat)]) (fun k : Nat => [rwR Zy l, rfB (slv 0 0 m c), rfB (slv 3 0 k k), dsB (acL kk l k)]) (fun k : Nat => k ≤ m) (fun k : Nat => m - k) 0 (Nat.zero_le _) ?_ ?_
 ·refine Zal (n := 4) rfl ?_ (by kernel_rfl) (by kernel_rfl)
  repeat (first | exact trivial | refine ⟨.inl rfl, ?_⟩ | refine ⟨.inr ⟨rfl, rfl⟩, ?_⟩ | refine ⟨.inr ⟨congrArg (Value.int .i64) (by first | omega | (dsimp only; omega)), rfl⟩, ?_⟩)
 rintro k hk
 refine Z3s hE 2 (H' := [rwR Zy l, rfB (slv 0 0 m c), rfB (slv 3 0 k k), dsB (acL kk l k), hole, hole]) rfl ?_
 have hks : ∀ j, j < k → True := fun _ _ => trivial
 refine Zjr ?_
 refine Zqa (by kernel_rfl) ?_
 by_cases h1 : (k : Nat) < (m : Nat)
 refine Zk (vx := Iv (k : Nat)) (vy := Iv (m : Nat)) rfl rfl (.bool true) rfl rfl (Zcq (by omega)) ?_
 refine Za (Zas (Zjr (Z2e rfl (Zxx (Zas (Zjr (Zuw (Zjr ?_))))))))
 refine Zqa (by kernel_rfl) ?_
 refine Zbf (b := 0) (o := 0) (j := k * 110) (m := m) (c := c) (sz := 110) (i := (k : Nat)) (k := .i64) rfl rfl rfl rfl rfl (by omega) (by omega) (by omega) ?_
 refine Zl (p := pt 0 (k * 110)) (v := Za1 (l.getD k default)) rfl rfl rfl (Zkt (n := 0) (m := 110) Zy rfl rfl rfl rfl (by omega) (by omega)) ?_
 refine Z7 (b := bxB 110 (Zh (⟨0, (⟨0, 0, 0, ⟨#[]⟩, (⟨(⟨0, 0, 0, dz, 0⟩ : Head), 0, dz⟩ : Signed), (⟨0, 0, 0, 0, dz⟩ : Claim)⟩ : Entry)⟩ : Item))) (nid := 4) (H' := [rwR Zy l, rfB (slv 0 0 m c), rfB (slv 3 0 k k), dsB (acL kk l k), bxB 110 (Zh (⟨0, (⟨0, 0, 0, ⟨#[]⟩, (⟨(⟨0, 0, 0, dz, 0⟩ : Head), 0, dz⟩ : Signed), (⟨0, 0, 0, 0, dz⟩ : Claim)⟩ : Entry)⟩ : Item)), hole]) rfl rfl (by kernel_rfl) (by kernel_rfl) ?_
 refine Zx (p := pt 4 0) (v := Za1 (l.getD k default)) (b := 4) (blk := bxB 110 (Zh (l.getD k default))) (H' := [rwR Zy l, rfB (slv 0 0 m c), rfB (slv 3 0 k k), dsB (acL kk l k), bxB 110 (Zh (l.getD k default)), hole]) rfl rfl rfl (by kernel_rfl) (by kernel_rfl) ?_
 refine Za (Zas (Zjr ?_))
 refine Zqa (by kernel_rfl) ?_
 refine Zl (p := pt 4 0) (v := Za1 (l.getD k default)) rfl rfl rfl (by kernel_rfl) ?_
 refine Zq (Zok (G := G) kk hG (l.getD k default)) (vals := [Za1 (l.getD k default)]) (res' := .tuple #[dgV ((Z1 kk (l.getD k default)).1), Iv ((Z1 kk (l.getD k default)).2)]) rfl rfl rfl rfl rfl (by kernel_rfl) ?_
 refine Ze rfl rfl (.tuple #[dgV ((Z1 kk (l.getD k default)).1), Iv ((Z1 kk (l.getD k default)).2)]) rfl (Zp (vs := #[dgV ((Z1 kk (l.getD k default)).1), Iv ((Z1 kk (l.getD k default)).2)]) (v := dgV ((Z1 kk (l.getD k default)).1)) rfl rfl rfl rfl (Zp (vs := #[dgV ((Z1 kk (l.getD k default)).1), Iv ((Z1 kk (l.getD k default)).2)]) (v := Iv ((Z1 kk (l.getD k default)).2)) rfl rfl rfl rfl ?_))
 refine Z7 (b := dgB dz) (nid := 5) (H' := [rwR Zy l, rfB (slv 0 0 m c), rfB (slv 3 0 k k), dsB (acL kk l k), bxB 110 (Zh (l.getD k default)), dgB dz]) rfl rfl (by kernel_rfl) (by kernel_rfl) ?_
 refine Zx (p := pt 5 0) (v := dgV ((Z1 kk (l.getD k default)).1)) (b := 5) (blk := dgB ((Z1 kk (l.getD k default)).1)) (H' := [rwR Zy l, rfB (slv 0 0 m c), rfB (slv 3 0 k k), dsB (acL kk l k), bxB 110 (Zh (l.getD k default)), dgB ((Z1 kk (l.getD k default)).1)]) rfl rfl rfl (by kernel_rfl) (by kernel_rfl) ?_
 refine Zc rfl rfl (Iv ((Z1 kk (l.getD k default)).2)) rfl (Za (Zas (Zjr ?_)))
 refine Z1g (fun w' h => ⟨w', h, rfl⟩) 2 rfl rfl rfl (by kernel_rfl) ?_
 refine Ze rfl rfl (.func (.yield l') #[] #[]) rfl ?_
 refine Zl (p := pt 5 0) (v := dgV ((Z1 kk (l.getD k default)).1)) rfl rfl rfl (by kernel_rfl) ?_
 refine Zkb ?_
 show Zxz _ _ _ _ _ _ _ _ _ _ _ _ _
 unfold Zxz
 refine ⟨l', [dgV ((Z1 kk (l.getD k default)).1)], [rwR Zy l, rfB (slv 0 0 m c), rfB (slv 3 0 (k + 1) (k + 1)), dsB (acL kk l (k + 1)), bxB 110 (Zh (l.getD k default)), dgB ((Z1 kk (l.getD k default)).1)], True, rfl, rfl, by decide, hY k (by omega) hks, fun hok => ?_, ?_⟩
 refine Zha (vx := .bool true) rfl rfl (.bool false) rfl Zd0 ?_
 refine Za (Zas (Zub rfl (Zxx (Zab (Zas ?_)))))
 refine Zqa (by kernel_rfl) ?_
 refine Zk (vx := Iv (k : Nat)) (vy := Iv 1) rfl rfl (Iv ((k : Nat) + 1)) rfl rfl (Zaz (by omega) (by omega) (by omega)) ?_
 refine Ze rfl rfl (Iv ((k : Nat) + 1)) rfl (Za ?_)
 refine Zas ⟨(k + 1), (show k + 1 ≤ m by omega), by show m - (k + 1) < m - k; omega, ?_⟩
 refine Zal (n := 4) rfl ?_ (by kernel_rfl) (by kernel_rfl)
 repeat (first | exact trivial | refine ⟨.inl rfl, ?_⟩ | refine ⟨.inr ⟨rfl, rfl⟩, ?_⟩ | refine ⟨.inr ⟨congrArg (Value.int .i64) (by first | omega | (dsimp only; omega)), rfl⟩, ?_⟩)
 refine Zha (vx := .bool false) rfl rfl (.bool true) rfl Zd0 ?_
 refine Za (Zas (Z2u rfl (Z0q (Zbq (Zc3 (Zc3 (Zbq ?_)))))))
 exact ⟨.inr rfl⟩
 refine Zk (vx := Iv (k : Nat)) (vy := Iv (m : Nat)) rfl rfl (.bool false) rfl rfl (Zcj (by omega)) ?_
 refine Za (Zas (Zjr (Zub rfl (Z3h (Za0 (Za0 (Zaw rfl ?_)))))))
 obtain rfl : k = m := by omega
 exact ⟨⟨.inl rfl, fun _ _ => trivial, _, Zal (l := []) (n := 4) rfl trivial (by kernel_rfl) (by kernel_rfl)⟩⟩
theorem Zyu (kk : Nat → BitVec 32) (hG : G 0 = some (Zac w32 64 kk)) (l : List Item) (m c : Nat) (hm : m ≤ l.length) (hc : m ≤ c) (hb : m ≤ 1048576) : Zae Tryd.prog G 75 [.slice none 0 0, .func (.func 76) #[] #[pt 1 0]] [rwR Zy l, rfB (slv 0 0 m c)] (slv 2 0 m m) [rwR Zy l, rfB (slv 0 0 m c), dsB (acL kk l m)] := by
  refine Zae.introM (fn := Tryd.f75) rfl rfl (nt := 13) rfl rfl ?_
  refine Zv3 (Z0m ?_)
  refine Zxl 2 (H' := [rwR Zy l, rfB (slv 0 0 m c), hole, hole]) rfl ?_
  refine Zpk (by kernel_rfl) ?_
  refine Zbr (v := .slice none 0 0) (b := rfB (.slice none 0 0)) (nid := 2) (H' := [rwR Zy l, rfB (slv 0 0 m c), rfB (.slice none 0 0), hole]) rfl rfl rfl (by kernel_rfl) (by kernel_rfl) ?_
  refine Zc rfl rfl (.slice none 0 0) rfl (Za (Zas (Zv3 (Zv3 (Z0m ?_)))))
  refine Zxp (Zbz.nilCell (k := 2) (j := 0) (b := 3) true 32 rfl (by decide) rfl (by show 0 < 1; decide) rfl rfl) ?_
  refine Zpk (by kernel_rfl) ?_
  refine Ze rfl rfl (.func (.func 76) #[] #[pt 1 0]) rfl (Za (Zas ?_))
  have hiter := Zta (G := G) kk hG l m c hm hc hb
  refine Z1h (lbs := #[pt 1 0]) (iter := hiter) rfl rfl rfl (by intro _ _; rfl) (by kernel_rfl) ?_ ?_
  · intro lp k hk hks
    refine Zxl 2 (H' := [rwR Zy l, rfB (slv 0 0 m c), rfB (slv 3 0 k k), dsB (acL kk l k), bxB 110 (Zh (l.getD k default)), dgB ((Z1 kk (l.getD k default)).1), hole, hole]) rfl ?_
    refine Zpk (by kernel_rfl) ?_
    refine Z7 (b := dgB dz) (nid := 6) (H' := [rwR Zy l, rfB (slv 0 0 m c), rfB (slv 3 0 k k), dsB (acL kk l k), bxB 110 (Zh (l.getD k default)), dgB ((Z1 kk (l.getD k default)).1), dgB dz, hole]) rfl rfl (by kernel_rfl) (by kernel_rfl) ?_
    refine Zx (p := pt 6 0) (v := dgV ((Z1 kk (l.getD k default)).1)) (b := 6) (blk := dgB ((Z1 kk (l.getD k default)).1)) (H' := [rwR Zy l, rfB (slv 0 0 m c), rfB (slv 3 0 k k), dsB (acL kk l k), bxB 110 (Zh (l.getD k default)), dgB ((Z1 kk (l.getD k default)).1), dgB ((Z1 kk (l.getD k default)).1), hole]) rfl rfl rfl (by kernel_rfl) (by kernel_rfl) ?_
    refine Za (Zas (Z1n ?_))
    refine Zpk (by kernel_rfl) ?_
    refine Zl (p := pt 2 0) (v := slv 3 0 k k) rfl rfl rfl rfl ?_
    refine Zl (p := pt 6 0) (v := dgV ((Z1 kk (l.getD k default)).1)) rfl rfl rfl (by kernel_rfl) ?_
    refine Zda (vs := [(0, dgV ((Z1 kk (l.getD k default)).1))]) (v := slv 7 0 1 1) (blk := dsB [(Z1 kk (l.getD k default)).1]) (nid := 7) (H' := [rwR Zy l, rfB (slv 0 0 m c), rfB (slv 3 0 k k), dsB (acL kk l k), bxB 110 (Zh (l.getD k default)), dgB ((Z1 kk (l.getD k default)).1), dgB ((Z1 kk (l.getD k default)).1), dsB [(Z1 kk (l.getD k default)).1]]) rfl rfl rfl (by kernel_rfl) (by kernel_rfl) ?_
    have hl1 : ((acL kk l k) ++ [(Z1 kk (l.getD k default)).1]).length = k + 1 := by have := (Zfe kk l k); have := (rfl : _ = 1); first | (rw [List.length_append]; omega) | (rw [List.length_append, List.length_take]; omega) | (simp; omega) | simp
    refine Zcv (p := slv 3 0 k k) (q := slv 7 0 1 1) (v := slv 3 0 (k + 1) (k + 1)) (b := 3) (blk := dsB ((acL kk l k) ++ [(Z1 kk (l.getD k default)).1])) (H' := [rwR Zy l, rfB (slv 0 0 m c), rfB (dead), dsB ((acL kk l k) ++ [(Z1 kk (l.getD k default)).1]), bxB 110 (Zh (l.getD k default)), dgB ((Z1 kk (l.getD k default)).1), dgB ((Z1 kk (l.getD k default)).1), dsB [(Z1 kk (l.getD k default)).1]]) rfl rfl rfl (.inl ⟨_, rfl⟩) rfl rfl (Zr0 cDg (by_ := 32) (k := 1) (n' := k + 1) (ms := [(Z1 kk (l.getD k default)).1]) (fun _ => rfl) rfl rfl (by kernel_rfl) rfl rfl (by have := (Zfe kk l k); omega) (by omega) (by decide) (by omega)) rfl (by kernel_rfl) ?_
    refine Zx (p := pt 2 0) (v := slv 3 0 (k + 1) (k + 1)) (b := 2) (blk := rfB (slv 3 0 (k + 1) (k + 1))) (H' := [rwR Zy l, rfB (slv 0 0 m c), rfB (slv 3 0 (k + 1) (k + 1)), dsB ((acL kk l k) ++ [(Z1 kk (l.getD k default)).1]), bxB 110 (Zh (l.getD k default)), dgB ((Z1 kk (l.getD k default)).1), dgB ((Z1 kk (l.getD k default)).1), dsB [(Z1 kk (l.getD k default)).1]]) rfl rfl rfl (by kernel_rfl) (by kernel_rfl) ?_
    refine Za (Zab ?_)
    exact ⟨⟨trivial, _, Zal (l := []) (n := 6) rfl trivial (by kernel_rfl) (by kernel_rfl)⟩⟩
  intro hall
  show CW none _ _ _ _ _ _ _
  refine Z47 ?_
  refine Zpk (by kernel_rfl) ?_
  refine Zl (p := pt 2 0) (v := slv 3 0 m m) rfl rfl rfl rfl ?_
  refine Zc rfl rfl (slv 3 0 m m) rfl (Za (Zas (Z0q (Zc3 (Zu ?_)))))
  exact Za7 [0, 1, 3] (v := slv 3 0 m m) rfl (by kernel_rfl) rfl rfl (by decide) (by simp [Za9, rwR, rfB, dsB, Zll, Zfu, Zy]) ⟨rfl, rfl, rfl, by first | omega | exact Nat.le_refl _ | exact Nat.zero_le _ | (dsimp only; omega), by first | omega | exact Nat.le_refl _ | exact Nat.zero_le _ | (dsimp only; omega)⟩
theorem Zv4 (kk : Nat → BitVec 32) (hG : G 0 = some (Zac w32 64 kk)) (l : List Item) (m c : Nat) (hm : m ≤ l.length) (hc : m ≤ c) (hb : m ≤ 1048576) : Zae Tryd.prog G 60 [.func (.func 76) #[] #[pt 1 0]] [rwR Zy l, rfB (slv 0 0 m c)] (slv 2 0 m m) [rwR Zy l, rfB (slv 0 0 m c), dsB (acL kk l m)] := by
  refine Zbj (fn := Tryd.f60) (nt := 5) rfl rfl rfl rfl ?_
  refine Zaj 1 (H' := [rwR Zy l, rfB (slv 0 0 m c), hole]) rfl ?_
  refine Zf (Zg (Zc rfl rfl (.slice none 0 0) rfl (Za (Zb (Zf (Zg (Ze rfl rfl (.func (.func 76) #[] #[pt 1 0]) rfl ?_)))))))
  refine Z4 (e := [some (0, 0), some (1, 0)]) (nid := 2) (Zyu (G := G) kk hG l m c hm hc hb) (vals := [.slice none 0 0, .func (.func 76) #[] #[pt 1 0]]) (v := slv 2 0 m m) (H' := [rwR Zy l, rfB (slv 0 0 m c), dsB (acL kk l m)]) rfl rfl rfl rfl rfl rfl rfl ⟨⟨rfl, ⟨by simp [Zgq, Zdj, Zjl, idE], by kernel_rfl⟩, trivial⟩, ⟨(Zd2 rfl), (Zau rfl rfl rfl rfl), trivial⟩, rfl, rfl, rfl⟩ (by kernel_rfl) (by kernel_rfl) ?_
  refine Zc rfl rfl (slv 2 0 m m) rfl (Za (Zb (Zt (Zu ?_))))
  exact Za7 [0, 1, 2] (v := slv 2 0 m m) rfl (by kernel_rfl) rfl rfl (by decide) (by simp [Za9, rwR, rfB, dsB, Zll, Zfu, Zy]) ⟨rfl, rfl, rfl, by first | omega | exact Nat.le_refl _ | exact Nat.zero_le _ | (dsimp only; omega), by first | omega | exact Nat.le_refl _ | exact Nat.zero_le _ | (dsimp only; omega)⟩
end Go.Flat
namespace Go.Flat
open Go.Proofs
variable {G : Glob}
def Zai (kk : Nat → BitVec 32) (l : List Item) (k : Int) : List D × Int := if Zhz l then (if 0 ≤ k ∧ k ≤ l.length then (acL kk l k.toNat, 0) else ([], 21)) else ([], 100)
theorem Zpx (kk : Nat → BitVec 32) (l : List Item) (k : Int) : (Zai kk l k).1.length ≤ 2000 := by
 unfold Zai
 split
 ·rename_i h
  split
  ·rename_i h2
   have := h.1
   show (acL kk l k.toNat).length ≤ 2000
   rw [Zfe]; omega
  ·exact Nat.zero_le _
 ·exact Nat.zero_le _
def Zaf (kk : Nat → BitVec 32) (l : List Item) (k : Int) : D × Int := if (Zai kk l k).2 = 0 then (Zcd kk (Zai kk l k).1, 0) else (dz, (Zai kk l k).2)
def Zs (kk : Nat → BitVec 32) (l : List Item) (k region epoch tick : Int) : Head × Int := if (Zaf kk l k).2 = 0 then (if Za5 ⟨region, epoch, k, (Zaf kk l k).1, tick⟩ = 0 then (⟨region, epoch, k, (Zaf kk l k).1, tick⟩, 0) else (⟨0, 0, 0, dz, 0⟩, 100)) else (⟨0, 0, 0, dz, 0⟩, (Zaf kk l k).2)
def Zw (kk : Nat → BitVec 32) (l : List Item) (k i : Int) : List D × Int := if (Zai kk l k).2 = 0 then (if 0 ≤ i ∧ i < (Zai kk l k).1.length then (Zc1 kk (Zai kk l k).1 i.toNat, 0) else ([], 20)) else ([], (Zai kk l k).2)
def Z65 (kk : Nat → BitVec 32) (l : List Item) (i k : Int) : List D × Int := if (Zai kk l k).2 = 0 then (if 0 ≤ i ∧ i ≤ (Zai kk l k).1.length then (if i = 0 then ([], 0) else (Z5e kk (Zai kk l k).1 i.toNat, 0)) else ([], 21)) else ([], (Zai kk l k).2)
theorem Zqx (ds : List D) (c n : Nat) (i : Int) (hn : ds.length = n) (h : i < 0 ∨ (n : Int) ≤ i) : Zae Tryd.prog G 46 [slv 0 0 n c, Iv i] [dsR ds] (.tuple #[Zz3, Iv 20]) [dsR ds] := by subst hn; exact Zqq ds c i h
theorem Zu2 (kk : Nat → BitVec 32) (hG : G 0 = some (Zac w32 64 kk)) (l : List Item) (n c : Nat) (hn : l.length = n) (hc : n ≤ c) (hb : n ≤ 1048576) (k : Int) : Zae Tryd.prog G 39 [slv 0 0 n c, Iv k] [rwR Zy l] (.tuple #[slv 1 0 (Zai kk l k).1.length (Zai kk l k).1.length, Iv (Zai kk l k).2]) [rwR Zy l, dsB (Zai kk l k).1] := by
  refine Zbj (fn := Tryd.f39) (nt := 21) rfl rfl rfl rfl ?_
  refine Zaj 2 (H' := [rwR Zy l, hole, hole]) rfl ?_
  refine Zf (Zg (Zc rfl rfl (.slice none 0 0) rfl (Zc rfl rfl (Iv 0) rfl (Za (Zb (Zf (Z9 (Zf (Zg (Ze rfl rfl (slv 0 0 n c) rfl ?_))))))))))
  refine Z4 (e := [some (0, 0)]) (nid := 0) (Zx6 (G := G) l n c hn (by omega) (by omega)) (vals := [slv 0 0 n c]) (v := Iv (Zob l)) (H' := [rwR Zy l, hole, hole]) rfl rfl rfl rfl rfl rfl rfl ⟨⟨⟨rfl, rfl, rfl, by first | omega | exact Nat.le_refl _, by first | omega | exact Nat.le_refl _⟩, trivial⟩, ⟨(Zd2 rfl), trivial⟩, rfl, rfl, rfl⟩ rfl (by kernel_rfl) ?_
  by_cases h1 : (Zob l) ≠ 0
  refine Zk (vx := Iv (Zob l)) (vy := Iv 0) rfl rfl (.bool true) rfl rfl (Zdg (by omega)) ?_
  refine Zc rfl rfl (.bool true) rfl (Za (Zb (Zz rfl (Zf (Zg (Zc rfl rfl (.slice none 0 0) rfl (Zc rfl rfl (Iv 100) rfl (Za (Zb ?_)))))))))
  refine Zb4 (Zbz.nilTmp (i := 4) (b := 1) true 32 rfl (by decide) rfl) ?_
  refine Zt (Zbq (Z3 (Zu ?_)))
  rw [show Zai kk l k = ([], 100) from if_neg (Z0h (by omega))]
  exact Za7 [0, 1] (v := .tuple #[slv 1 0 0 0, Iv 100]) rfl (by kernel_rfl) rfl rfl (by decide) (by simp [Za9, rwR, dsB, Zy]) ⟨⟨rfl, rfl, rfl, by first | omega | exact Nat.le_refl _ | exact Nat.zero_le _ | (dsimp only; omega), by first | omega | exact Nat.le_refl _ | exact Nat.zero_le _ | (dsimp only; omega)⟩, rfl, trivial⟩
  refine Zk (vx := Iv (Zob l)) (vy := Iv 0) rfl rfl (.bool false) rfl rfl (Zc5 (by omega)) ?_
  refine Zc rfl rfl (.bool false) rfl (Za (Zb (Zv rfl (Zf (Zg (Ze rfl rfl (Iv k) rfl (Ze rfl rfl (slv 0 0 n c) rfl ?_)))))))
  refine Zbl (p := slv 0 0 n c) (v := Iv (n : Nat)) rfl rfl rfl rfl ?_
  by_cases h2 : 0 ≤ k
  by_cases h3 : k ≤ (n : Nat)
  refine Zq ((Zf6 (G := G) k 0 (n : Nat)).res (congrArg Value.bool (Zb9 (by omega) (by omega)))) (vals := [Iv k, Iv 0, Iv (n : Nat)]) (res' := .bool true) rfl rfl rfl rfl rfl rfl ?_
  refine Zha (vx := .bool true) rfl rfl (.bool false) rfl Zd0 ?_
  refine Zc rfl rfl (.bool false) rfl (Za (Zb (Zv rfl (Z2 (Zab (Zb (Zf ?_)))))))
  obtain ⟨q, rfl⟩ : ∃ x0 : Nat, k = (x0 : Int) := ⟨k.toNat, by omega⟩
  refine Zg (Ze rfl rfl (slv 0 0 n c) rfl (Ze rfl rfl (Iv (q : Nat)) rfl ?_))
  refine Zdd (p := slv 0 0 n c) (vl := none) (vh := some (Iv (q : Nat))) (v := slv 0 0 q c) rfl rfl rfl rfl rfl (Zie (h := q) rfl rfl (by omega) (by omega) rfl) ?_
  refine Z4 (e := [some (0, 0)]) (nid := 1) (Zx7 (G := G) l q c (by have := hn; omega) (by omega) (by omega)) (vals := [slv 0 0 q c]) (v := .func (.func 76) #[] #[pt 1 0]) (H' := [rwR Zy l, rfB (slv 0 0 q c), hole]) rfl rfl rfl rfl rfl rfl rfl ⟨⟨⟨rfl, rfl, rfl, by omega, by omega⟩, trivial⟩, ⟨(Zd2 rfl), trivial⟩, rfl, rfl, rfl⟩ (by kernel_rfl) (by kernel_rfl) ?_
  refine Z4 (e := [some (0, 0), some (1, 0)]) (nid := 2) (Zv4 (G := G) kk hG l q c (by have := hn; omega) (by omega) (by omega)) (vals := [.func (.func 76) #[] #[pt 1 0]]) (v := slv 2 0 q q) (H' := [rwR Zy l, rfB (slv 0 0 q c), dsB (acL kk l q)]) rfl rfl rfl rfl rfl rfl rfl ⟨⟨⟨by simp [Zgq, Zdj, Zjl, idE], by kernel_rfl⟩, trivial⟩, ⟨(Zd2 rfl), (Zau rfl rfl rfl rfl), trivial⟩, rfl, rfl, rfl⟩ (by kernel_rfl) (by kernel_rfl) ?_
  refine Zc rfl rfl (slv 2 0 q q) rfl (Zc rfl rfl (Iv 0) rfl (Za (Zb (Zt (Zu ?_)))))
  rw [show Zai kk l ((q : Nat) : Int) = (acL kk l q, 0) from by unfold Zai; rw [if_pos (Zqf (by omega)), if_pos (by omega)]; rfl]
  rw [show (acL kk l q, (0 : Int)).1.length = q from Zfe kk l q]
  exact Za7 [0, 2] (v := .tuple #[slv 2 0 q q, Iv 0]) rfl (by kernel_rfl) rfl rfl (by decide) (by simp [Za9, rwR, dsB, Zy]) ⟨⟨rfl, rfl, rfl, by first | omega | exact Nat.le_refl _ | exact Nat.zero_le _ | (dsimp only; omega), by first | omega | exact Nat.le_refl _ | exact Nat.zero_le _ | (dsimp only; omega)⟩, rfl, trivial⟩
  refine Zq ((Zf6 (G := G) k 0 (n : Nat)).res (congrArg Value.bool (Zap (by omega)))) (vals := [Iv k, Iv 0, Iv (n : Nat)]) (res' := .bool false) rfl rfl rfl rfl rfl rfl ?_
  refine Zha (vx := .bool false) rfl rfl (.bool true) rfl Zd0 ?_
  refine Zc rfl rfl (.bool true) rfl (Za (Zb (Zz rfl (Zf (Zg (Zc rfl rfl (.slice none 0 0) rfl (Zc rfl rfl (Iv 21) rfl (Za (Zb ?_)))))))))
  refine Zb4 (Zbz.nilTmp (i := 4) (b := 1) true 32 rfl (by decide) rfl) ?_
  refine Zt (Zbq (Z3 (Zu ?_)))
  rw [show Zai kk l k = ([], 21) from by unfold Zai; rw [if_pos (Zqf (by omega)), if_neg (by omega)]]
  exact Za7 [0, 1] (v := .tuple #[slv 1 0 0 0, Iv 21]) rfl (by kernel_rfl) rfl rfl (by decide) (by simp [Za9, rwR, dsB, Zy]) ⟨⟨rfl, rfl, rfl, by first | omega | exact Nat.le_refl _ | exact Nat.zero_le _ | (dsimp only; omega), by first | omega | exact Nat.le_refl _ | exact Nat.zero_le _ | (dsimp only; omega)⟩, rfl, trivial⟩
  refine Zq ((Zf6 (G := G) k 0 (n : Nat)).res (congrArg Value.bool (Zap (by omega)))) (vals := [Iv k, Iv 0, Iv (n : Nat)]) (res' := .bool false) rfl rfl rfl rfl rfl rfl ?_
  refine Zha (vx := .bool false) rfl rfl (.bool true) rfl Zd0 ?_
  refine Zc rfl rfl (.bool true) rfl (Za (Zb (Zz rfl (Zf (Zg (Zc rfl rfl (.slice none 0 0) rfl (Zc rfl rfl (Iv 21) rfl (Za (Zb ?_)))))))))
  refine Zb4 (Zbz.nilTmp (i := 4) (b := 1) true 32 rfl (by decide) rfl) ?_
  refine Zt (Zbq (Z3 (Zu ?_)))
  rw [show Zai kk l k = ([], 21) from by unfold Zai; rw [if_pos (Zqf (by omega)), if_neg (by omega)]]
  exact Za7 [0, 1] (v := .tuple #[slv 1 0 0 0, Iv 21]) rfl (by kernel_rfl) rfl rfl (by decide) (by simp [Za9, rwR, dsB, Zy]) ⟨⟨rfl, rfl, rfl, by first | omega | exact Nat.le_refl _ | exact Nat.zero_le _ | (dsimp only; omega), by first | omega | exact Nat.le_refl _ | exact Nat.zero_le _ | (dsimp only; omega)⟩, rfl, trivial⟩
theorem Zul (kk : Nat → BitVec 32) (hG : G 0 = some (Zac w32 64 kk)) (hG1 : G 2 = some (Zac u8N 64 dbF)) (l : List Item) (n c : Nat) (hn : l.length = n) (hc : n ≤ c) (hb : n ≤ 1048576) (k : Int) : Zae Tryd.prog G 21 [slv 0 0 n c, Iv k] [rwR Zy l] (.tuple #[dgV (Zaf kk l k).1, Iv (Zaf kk l k).2]) [rwR Zy l] := by
  refine Zbj (fn := Tryd.f21) (nt := 20) rfl rfl rfl rfl ?_
  refine Zaj 2 (H' := [rwR Zy l, hole, hole]) rfl ?_
  refine Zf (Zg ?_)
  refine Z7 (b := dgB dz) (nid := 1) (H' := [rwR Zy l, dgB dz, hole]) rfl rfl (by kernel_rfl) (by kernel_rfl) ?_
  refine Zc rfl rfl (Iv 0) rfl (Za (Zb (Zf (Zg (Ze rfl rfl (slv 0 0 n c) rfl (Ze rfl rfl (Iv k) rfl ?_))))))
  have hfl3 := Zpx kk l k
  refine Z4 (e := [some (0, 0)]) (nid := 2) (Zu2 (G := G) kk hG l n c hn (by omega) (by omega) k) (vals := [slv 0 0 n c, Iv k]) (v := .tuple #[slv 2 0 ((Zai kk l k).1.length) ((Zai kk l k).1.length), Iv ((Zai kk l k).2)]) (H' := [rwR Zy l, dgB dz, dsB ((Zai kk l k).1)]) rfl rfl rfl rfl rfl rfl rfl ⟨⟨⟨rfl, rfl, rfl, by first | omega | exact Nat.le_refl _, by first | omega | exact Nat.le_refl _⟩, rfl, trivial⟩, ⟨(Zd2 rfl), trivial⟩, rfl, rfl, rfl⟩ (by kernel_rfl) (by kernel_rfl) ?_
  refine Ze rfl rfl (.tuple #[slv 2 0 ((Zai kk l k).1.length) ((Zai kk l k).1.length), Iv ((Zai kk l k).2)]) rfl (Zp (vs := #[slv 2 0 ((Zai kk l k).1.length) ((Zai kk l k).1.length), Iv ((Zai kk l k).2)]) (v := slv 2 0 ((Zai kk l k).1.length) ((Zai kk l k).1.length)) rfl rfl rfl rfl (Zp (vs := #[slv 2 0 ((Zai kk l k).1.length) ((Zai kk l k).1.length), Iv ((Zai kk l k).2)]) (v := Iv ((Zai kk l k).2)) rfl rfl rfl rfl (Zc rfl rfl (slv 2 0 ((Zai kk l k).1.length) ((Zai kk l k).1.length)) rfl (Zc rfl rfl (Iv ((Zai kk l k).2)) rfl (Za (Zb (Zf (Zf (Zg (Ze rfl rfl (Iv ((Zai kk l k).2)) rfl ?_))))))))))
  by_cases h1 : ((Zai kk l k).2) ≠ 0
  refine Zk (vx := Iv ((Zai kk l k).2)) (vy := Iv 0) rfl rfl (.bool true) rfl rfl (Zdg (by omega)) ?_
  refine Za (Zb (Zz rfl (Zf (Zg ?_))))
  refine Zbn (vs := []) (v := dgV dz) rfl rfl rfl (by kernel_rfl) ?_
  refine Ze rfl rfl (Iv ((Zai kk l k).2)) rfl ?_
  refine Zx (p := pt 1 0) (v := dgV dz) (b := 1) (blk := dgB dz) (H' := [rwR Zy l, dgB dz, dsB ((Zai kk l k).1)]) rfl rfl rfl (by kernel_rfl) (by kernel_rfl) ?_
  refine Zc rfl rfl (Iv ((Zai kk l k).2)) rfl (Za (Zb (Zt (Z3 (Zu ?_)))))
  rw [show Zaf kk l k = (dz, (Zai kk l k).2) from if_neg (by omega)]
  exact Zm (v := .tuple #[dgV dz, Iv ((Zai kk l k).2)]) (by kernel_rfl) rfl rfl (by simp [Za9, rwR, Zy]) ⟨(Zcr (Zb0 fun _ => rfl) rfl), rfl, trivial⟩
  refine Zk (vx := Iv ((Zai kk l k).2)) (vy := Iv 0) rfl rfl (.bool false) rfl rfl (Zc5 (by omega)) ?_
  refine Za (Zb (Zv rfl (Z2 (Zb (Zf (Zg (Ze rfl rfl (slv 2 0 ((Zai kk l k).1.length) ((Zai kk l k).1.length)) rfl ?_)))))))
  refine Z4 (e := [some (2, 0)]) (nid := 0) (Zzx (G := G) kk hG hG1 ((Zai kk l k).1) (c := ((Zai kk l k).1.length)) (n := ((Zai kk l k).1.length)) (rfl : _ = _) (by omega) (by omega) rfl) (vals := [slv 2 0 ((Zai kk l k).1.length) ((Zai kk l k).1.length)]) (v := dgV (Zcd kk ((Zai kk l k).1))) (H' := [rwR Zy l, dgB dz, dsB ((Zai kk l k).1)]) rfl rfl rfl rfl rfl rfl rfl ⟨⟨⟨rfl, rfl, rfl, by first | omega | exact Nat.le_refl _, by first | omega | exact Nat.le_refl _⟩, trivial⟩, ⟨(Zgp rfl), trivial⟩, rfl, rfl, rfl⟩ (by kernel_rfl) (by kernel_rfl) ?_
  refine Zx (p := pt 1 0) (v := dgV (Zcd kk ((Zai kk l k).1))) (b := 1) (blk := dgB (Zcd kk ((Zai kk l k).1))) (H' := [rwR Zy l, dgB (Zcd kk ((Zai kk l k).1)), dsB ((Zai kk l k).1)]) rfl rfl rfl (by kernel_rfl) (by kernel_rfl) ?_
  refine Zc rfl rfl (Iv 0) rfl (Za (Zb (Zt (Zu ?_))))
  rw [show Zaf kk l k = (Zcd kk (Zai kk l k).1, 0) from if_pos (by omega)]
  exact Zm (v := .tuple #[dgV (Zcd kk ((Zai kk l k).1)), Iv 0]) (by kernel_rfl) rfl rfl (by simp [Za9, rwR, Zy]) ⟨(Zcr (Zb0 fun _ => rfl) rfl), rfl, trivial⟩
theorem Zu0 (kk : Nat → BitVec 32) (hG : G 0 = some (Zac w32 64 kk)) (hG1 : G 2 = some (Zac u8N 64 dbF)) (l : List Item) (n c : Nat) (hn : l.length = n) (hc : n ≤ c) (hb : n ≤ 1048576) (k region epoch tick : Int) : Zae Tryd.prog G 8 [slv 0 0 n c, Iv k, Iv region, Iv epoch, Iv tick] [rwR Zy l] (.tuple #[Zbp (Zs kk l k region epoch tick).1, Iv (Zs kk l k region epoch tick).2]) [rwR Zy l] := by
  refine Zbj (fn := Tryd.f8) (nt := 36) rfl rfl rfl rfl ?_
  refine Zaj 3 (H' := [rwR Zy l, hole, hole, hole]) rfl ?_
  refine Zf (Zg ?_)
  refine Z7 (b := bxB 36 (Zav (⟨0, 0, 0, dz, 0⟩ : Head))) (nid := 1) (H' := [rwR Zy l, bxB 36 (Zav (⟨0, 0, 0, dz, 0⟩ : Head)), hole, hole]) rfl rfl (by kernel_rfl) (by kernel_rfl) ?_
  refine Zc rfl rfl (Iv 0) rfl (Za (Zb (Zf (Zg (Ze rfl rfl (slv 0 0 n c) rfl (Ze rfl rfl (Iv k) rfl ?_))))))
  refine Z4 (e := [some (0, 0)]) (nid := 0) (Zul (G := G) kk hG hG1 l n c hn (by omega) (by omega) k) (vals := [slv 0 0 n c, Iv k]) (v := .tuple #[dgV ((Zaf kk l k).1), Iv ((Zaf kk l k).2)]) (H' := [rwR Zy l, bxB 36 (Zav (⟨0, 0, 0, dz, 0⟩ : Head)), hole, hole]) rfl rfl rfl rfl rfl rfl rfl ⟨⟨⟨rfl, rfl, rfl, by first | omega | exact Nat.le_refl _, by first | omega | exact Nat.le_refl _⟩, rfl, trivial⟩, ⟨(Zd2 rfl), trivial⟩, rfl, rfl, rfl⟩ (by kernel_rfl) (by kernel_rfl) ?_
  refine Ze rfl rfl (.tuple #[dgV ((Zaf kk l k).1), Iv ((Zaf kk l k).2)]) rfl (Zp (vs := #[dgV ((Zaf kk l k).1), Iv ((Zaf kk l k).2)]) (v := dgV ((Zaf kk l k).1)) rfl rfl rfl rfl (Zp (vs := #[dgV ((Zaf kk l k).1), Iv ((Zaf kk l k).2)]) (v := Iv ((Zaf kk l k).2)) rfl rfl rfl rfl ?_))
  refine Z7 (b := dgB dz) (nid := 2) (H' := [rwR Zy l, bxB 36 (Zav (⟨0, 0, 0, dz, 0⟩ : Head)), dgB dz, hole]) rfl rfl (by kernel_rfl) (by kernel_rfl) ?_
  refine Zx (p := pt 2 0) (v := dgV ((Zaf kk l k).1)) (b := 2) (blk := dgB ((Zaf kk l k).1)) (H' := [rwR Zy l, bxB 36 (Zav (⟨0, 0, 0, dz, 0⟩ : Head)), dgB ((Zaf kk l k).1), hole]) rfl rfl rfl (by kernel_rfl) (by kernel_rfl) ?_
  refine Zc rfl rfl (Iv ((Zaf kk l k).2)) rfl (Za (Zb (Zf (Zf (Zg (Ze rfl rfl (Iv ((Zaf kk l k).2)) rfl ?_))))))
  by_cases h1 : ((Zaf kk l k).2) ≠ 0
  refine Zk (vx := Iv ((Zaf kk l k).2)) (vy := Iv 0) rfl rfl (.bool true) rfl rfl (Zdg (by omega)) ?_
  refine Za (Zb (Zz rfl (Zf (Zg ?_))))
  refine Zbn (vs := []) (v := Zbp (⟨0, 0, 0, dz, 0⟩ : Head)) rfl rfl rfl (by kernel_rfl) ?_
  refine Ze rfl rfl (Iv ((Zaf kk l k).2)) rfl ?_
  refine Zx (p := pt 1 0) (v := Zbp (⟨0, 0, 0, dz, 0⟩ : Head)) (b := 1) (blk := bxB 36 (Zav (⟨0, 0, 0, dz, 0⟩ : Head))) (H' := [rwR Zy l, bxB 36 (Zav (⟨0, 0, 0, dz, 0⟩ : Head)), dgB ((Zaf kk l k).1), hole]) rfl rfl rfl (by kernel_rfl) (by kernel_rfl) ?_
  refine Zc rfl rfl (Iv ((Zaf kk l k).2)) rfl (Za (Zb (Zt (Z3 (Zu ?_)))))
  rw [show Zs kk l k region epoch tick = (⟨0, 0, 0, dz, 0⟩, (Zaf kk l k).2) from by unfold Zs; rw [if_neg (by omega)]]
  exact Zm (v := .tuple #[Zbp (⟨0, 0, 0, dz, 0⟩ : Head), Iv ((Zaf kk l k).2)]) (by kernel_rfl) rfl rfl (by simp [Za9, rwR, Zy]) ⟨(Zhe (by kernel_rfl) rfl), rfl, trivial⟩
  refine Zk (vx := Iv ((Zaf kk l k).2)) (vy := Iv 0) rfl rfl (.bool false) rfl rfl (Zc5 (by omega)) ?_
  refine Za (Zb (Zv rfl (Z2 (Zb (Zf (Zg (Ze rfl rfl (Iv region) rfl (Ze rfl rfl (Iv epoch) rfl (Ze rfl rfl (Iv k) rfl ?_)))))))))
  refine Zl (p := pt 2 0) (v := dgV ((Zaf kk l k).1)) rfl rfl rfl (by kernel_rfl) ?_
  refine Ze rfl rfl (Iv tick) rfl ?_
  refine Zbn (vs := [(0, Iv region), (1, Iv epoch), (2, Iv k), (3, dgV ((Zaf kk l k).1)), (4, Iv tick)]) (v := Zbp (⟨region, epoch, k, (Zaf kk l k).1, tick⟩ : Head)) rfl rfl rfl (by kernel_rfl) ?_
  refine Z7 (b := bxB 36 (Zav (⟨0, 0, 0, dz, 0⟩ : Head))) (nid := 3) (H' := [rwR Zy l, bxB 36 (Zav (⟨0, 0, 0, dz, 0⟩ : Head)), dgB ((Zaf kk l k).1), bxB 36 (Zav (⟨0, 0, 0, dz, 0⟩ : Head))]) rfl rfl (by kernel_rfl) (by kernel_rfl) ?_
  refine Zx (p := pt 3 0) (v := Zbp (⟨region, epoch, k, (Zaf kk l k).1, tick⟩ : Head)) (b := 3) (blk := bxB 36 (Zav (⟨region, epoch, k, (Zaf kk l k).1, tick⟩ : Head))) (H' := [rwR Zy l, bxB 36 (Zav (⟨0, 0, 0, dz, 0⟩ : Head)), dgB ((Zaf kk l k).1), bxB 36 (Zav (⟨region, epoch, k, (Zaf kk l k).1, tick⟩ : Head))]) rfl rfl rfl (by kernel_rfl) (by kernel_rfl) ?_
  refine Za (Zb (Zf (Zf (Zg ?_))))
  refine Zl (p := pt 3 0) (v := Zbp (⟨region, epoch, k, (Zaf kk l k).1, tick⟩ : Head)) rfl rfl rfl (by kernel_rfl) ?_
  refine Zq (Zp2 (G := G) (⟨region, epoch, k, (Zaf kk l k).1, tick⟩ : Head)) (vals := [Zbp (⟨region, epoch, k, (Zaf kk l k).1, tick⟩ : Head)]) (res' := Iv (Za5 (⟨region, epoch, k, (Zaf kk l k).1, tick⟩ : Head))) rfl rfl rfl rfl rfl rfl ?_
  by_cases h2 : (Za5 (⟨region, epoch, k, (Zaf kk l k).1, tick⟩ : Head)) ≠ 0
  refine Zk (vx := Iv (Za5 (⟨region, epoch, k, (Zaf kk l k).1, tick⟩ : Head))) (vy := Iv 0) rfl rfl (.bool true) rfl rfl (Zdg (by omega)) ?_
  refine Za (Zb (Zz rfl (Zf (Zg ?_))))
  refine Zbn (vs := []) (v := Zbp (⟨0, 0, 0, dz, 0⟩ : Head)) rfl rfl rfl (by kernel_rfl) ?_
  refine Zx (p := pt 1 0) (v := Zbp (⟨0, 0, 0, dz, 0⟩ : Head)) (b := 1) (blk := bxB 36 (Zav (⟨0, 0, 0, dz, 0⟩ : Head))) (H' := [rwR Zy l, bxB 36 (Zav (⟨0, 0, 0, dz, 0⟩ : Head)), dgB ((Zaf kk l k).1), bxB 36 (Zav (⟨region, epoch, k, (Zaf kk l k).1, tick⟩ : Head))]) rfl rfl rfl (by kernel_rfl) (by kernel_rfl) ?_
  refine Zc rfl rfl (Iv 100) rfl (Za (Zb (Zt (Z3 (Zu ?_)))))
  rw [show Zs kk l k region epoch tick = (⟨0, 0, 0, dz, 0⟩, 100) from by unfold Zs; rw [if_pos (by omega), if_neg (by omega)]]
  exact Zm (v := .tuple #[Zbp (⟨0, 0, 0, dz, 0⟩ : Head), Iv 100]) (by kernel_rfl) rfl rfl (by simp [Za9, rwR, Zy]) ⟨(Zhe (by kernel_rfl) rfl), rfl, trivial⟩
  refine Zk (vx := Iv (Za5 (⟨region, epoch, k, (Zaf kk l k).1, tick⟩ : Head))) (vy := Iv 0) rfl rfl (.bool false) rfl rfl (Zc5 (by omega)) ?_
  refine Za (Zb (Zv rfl (Z2 (Zb (Zf (Zg ?_))))))
  refine Zl (p := pt 3 0) (v := Zbp (⟨region, epoch, k, (Zaf kk l k).1, tick⟩ : Head)) rfl rfl rfl (by kernel_rfl) ?_
  refine Zx (p := pt 1 0) (v := Zbp (⟨region, epoch, k, (Zaf kk l k).1, tick⟩ : Head)) (b := 1) (blk := bxB 36 (Zav (⟨region, epoch, k, (Zaf kk l k).1, tick⟩ : Head))) (H' := [rwR Zy l, bxB 36 (Zav (⟨region, epoch, k, (Zaf kk l k).1, tick⟩ : Head)), dgB ((Zaf kk l k).1), bxB 36 (Zav (⟨region, epoch, k, (Zaf kk l k).1, tick⟩ : Head))]) rfl rfl rfl (by kernel_rfl) (by kernel_rfl) ?_
  refine Zc rfl rfl (Iv 0) rfl (Za (Zb (Zt (Zu ?_))))
  rw [show Zs kk l k region epoch tick = ((⟨region, epoch, k, (Zaf kk l k).1, tick⟩ : Head), 0) from by unfold Zs; rw [if_pos (by omega), if_pos (by omega)]]
  exact Zm (v := .tuple #[Zbp (⟨region, epoch, k, (Zaf kk l k).1, tick⟩ : Head), Iv 0]) (by kernel_rfl) rfl rfl (by simp [Za9, rwR, Zy]) ⟨(Zhe (by kernel_rfl) rfl), rfl, trivial⟩
theorem Z17 (kk : Nat → BitVec 32) (hG : G 0 = some (Zac w32 64 kk)) (hG1 : G 2 = some (Zac u8N 64 dbF)) (l : List Item) (n c : Nat) (hn : l.length = n) (hc : n ≤ c) (hb : n ≤ 1048576) (k i : Int) : Zae Tryd.prog G 28 [slv 0 0 n c, Iv k, Iv i] [rwR Zy l] (.tuple #[slv 1 0 (Zw kk l k i).1.length (Zw kk l k i).1.length, Iv (Zw kk l k i).2]) [rwR Zy l, dsB (Zw kk l k i).1] := by
  refine Zbj (fn := Tryd.f28) (nt := 24) rfl rfl rfl rfl ?_
  refine Zaj 2 (H' := [rwR Zy l, hole, hole]) rfl ?_
  refine Zf (Zg (Zc rfl rfl (.slice none 0 0) rfl (Zc rfl rfl (Iv 0) rfl (Za (Zb (Zf (Zg (Ze rfl rfl (slv 0 0 n c) rfl (Ze rfl rfl (Iv k) rfl ?_)))))))))
  have hfl4 := Zpx kk l k
  refine Z4 (e := [some (0, 0)]) (nid := 1) (Zu2 (G := G) kk hG l n c hn (by omega) (by omega) k) (vals := [slv 0 0 n c, Iv k]) (v := .tuple #[slv 1 0 ((Zai kk l k).1.length) ((Zai kk l k).1.length), Iv ((Zai kk l k).2)]) (H' := [rwR Zy l, dsB ((Zai kk l k).1), hole]) rfl rfl rfl rfl rfl rfl rfl ⟨⟨⟨rfl, rfl, rfl, by first | omega | exact Nat.le_refl _, by first | omega | exact Nat.le_refl _⟩, rfl, trivial⟩, ⟨(Zd2 rfl), trivial⟩, rfl, rfl, rfl⟩ (by kernel_rfl) (by kernel_rfl) ?_
  refine Ze rfl rfl (.tuple #[slv 1 0 ((Zai kk l k).1.length) ((Zai kk l k).1.length), Iv ((Zai kk l k).2)]) rfl (Zp (vs := #[slv 1 0 ((Zai kk l k).1.length) ((Zai kk l k).1.length), Iv ((Zai kk l k).2)]) (v := slv 1 0 ((Zai kk l k).1.length) ((Zai kk l k).1.length)) rfl rfl rfl rfl (Zp (vs := #[slv 1 0 ((Zai kk l k).1.length) ((Zai kk l k).1.length), Iv ((Zai kk l k).2)]) (v := Iv ((Zai kk l k).2)) rfl rfl rfl rfl (Zc rfl rfl (slv 1 0 ((Zai kk l k).1.length) ((Zai kk l k).1.length)) rfl (Zc rfl rfl (Iv ((Zai kk l k).2)) rfl (Za (Zb (Zf (Zf (Zg (Ze rfl rfl (Iv ((Zai kk l k).2)) rfl ?_))))))))))
  by_cases h1 : ((Zai kk l k).2) ≠ 0
  refine Zk (vx := Iv ((Zai kk l k).2)) (vy := Iv 0) rfl rfl (.bool true) rfl rfl (Zdg (by omega)) ?_
  refine Za (Zb (Zz rfl (Zf (Zg (Ze rfl rfl (Iv ((Zai kk l k).2)) rfl (Zc rfl rfl (.slice none 0 0) rfl (Zc rfl rfl (Iv ((Zai kk l k).2)) rfl (Za (Zb ?_)))))))))
  refine Zb4 (Zbz.nilTmp (i := 6) (b := 2) true 32 rfl (by decide) rfl) ?_
  refine Zt (Z3 (Zu ?_))
  rw [show Zw kk l k i = ([], (Zai kk l k).2) from by unfold Zw; rw [if_neg (by omega)]]
  exact Za7 [0, 2] (v := .tuple #[slv 2 0 0 0, Iv ((Zai kk l k).2)]) rfl (by kernel_rfl) rfl rfl (by decide) (by simp [Za9, rwR, dsB, Zy]) ⟨⟨rfl, rfl, rfl, by first | omega | exact Nat.le_refl _ | exact Nat.zero_le _ | (dsimp only; omega), by first | omega | exact Nat.le_refl _ | exact Nat.zero_le _ | (dsimp only; omega)⟩, rfl, trivial⟩
  refine Zk (vx := Iv ((Zai kk l k).2)) (vy := Iv 0) rfl rfl (.bool false) rfl rfl (Zc5 (by omega)) ?_
  refine Za (Zb (Zv rfl (Z2 (Zb (Zf (Zg (Ze rfl rfl (slv 1 0 ((Zai kk l k).1.length) ((Zai kk l k).1.length)) rfl (Ze rfl rfl (Iv i) rfl ?_))))))))
  by_cases h2 : i < 0
  refine Z4 (e := [some (1, 0)]) (nid := 0) (Zqx (G := G) ((Zai kk l k).1) ((Zai kk l k).1.length) ((Zai kk l k).1.length) i (rfl : _ = _) (by omega)) (vals := [slv 1 0 ((Zai kk l k).1.length) ((Zai kk l k).1.length), Iv i]) (v := .tuple #[.slice none 0 0, Iv 20]) (H' := [rwR Zy l, dsB ((Zai kk l k).1), hole]) rfl rfl rfl rfl rfl rfl rfl ⟨⟨⟨rfl, rfl, rfl, by first | omega | exact Nat.le_refl _, by first | omega | exact Nat.le_refl _⟩, rfl, trivial⟩, ⟨(Zgp rfl), trivial⟩, rfl, rfl, rfl⟩ (by kernel_rfl) (by kernel_rfl) ?_
  refine Zp (vs := #[.slice none 0 0, Iv 20]) (v := .slice none 0 0) rfl rfl rfl rfl (Zp (vs := #[.slice none 0 0, Iv 20]) (v := Iv 20) rfl rfl rfl rfl (Zc rfl rfl (.slice none 0 0) rfl (Zc rfl rfl (Iv 20) rfl (Za (Zb ?_)))))
  refine Zb4 (Zbz.nilTmp (i := 6) (b := 2) true 32 rfl (by decide) rfl) ?_
  refine Zt (Zu ?_)
  rw [show Zw kk l k i = ([], 20) from by unfold Zw; rw [if_pos (by omega), if_neg (by omega)]]
  exact Za7 [0, 2] (v := .tuple #[slv 2 0 0 0, Iv 20]) rfl (by kernel_rfl) rfl rfl (by decide) (by simp [Za9, rwR, dsB, Zy]) ⟨⟨rfl, rfl, rfl, by first | omega | exact Nat.le_refl _ | exact Nat.zero_le _ | (dsimp only; omega), by first | omega | exact Nat.le_refl _ | exact Nat.zero_le _ | (dsimp only; omega)⟩, rfl, trivial⟩
  by_cases h3 : i < ((((Zai kk l k).1.length) : Nat) : Int)
  refine Z4 (e := [some (1, 0)]) (nid := 2) (Z2m (G := G) kk hG hG1 ((Zai kk l k).1) ((Zai kk l k).1.length) i.toNat (n := ((Zai kk l k).1.length)) (rfl : _ = _) (by omega) (by omega) (by omega) rfl) (vals := [slv 1 0 ((Zai kk l k).1.length) ((Zai kk l k).1.length), Iv i]) (v := .tuple #[slv 2 0 ((Zc1 kk ((Zai kk l k).1) i.toNat).length) ((Zc1 kk ((Zai kk l k).1) i.toNat).length), Iv 0]) (H' := [rwR Zy l, dsB ((Zai kk l k).1), dsB (Zc1 kk ((Zai kk l k).1) i.toNat)]) rfl rfl rfl rfl rfl rfl rfl ⟨⟨⟨rfl, rfl, rfl, by first | omega | exact Nat.le_refl _, by first | omega | exact Nat.le_refl _⟩, (congrArg (Value.int .i64) (by omega)), trivial⟩, ⟨(Zgp rfl), trivial⟩, rfl, rfl, rfl⟩ (by kernel_rfl) (by kernel_rfl) ?_
  refine Zp (vs := #[slv 2 0 ((Zc1 kk ((Zai kk l k).1) i.toNat).length) ((Zc1 kk ((Zai kk l k).1) i.toNat).length), Iv 0]) (v := slv 2 0 ((Zc1 kk ((Zai kk l k).1) i.toNat).length) ((Zc1 kk ((Zai kk l k).1) i.toNat).length)) rfl rfl rfl rfl (Zp (vs := #[slv 2 0 ((Zc1 kk ((Zai kk l k).1) i.toNat).length) ((Zc1 kk ((Zai kk l k).1) i.toNat).length), Iv 0]) (v := Iv 0) rfl rfl rfl rfl (Zc rfl rfl (slv 2 0 ((Zc1 kk ((Zai kk l k).1) i.toNat).length) ((Zc1 kk ((Zai kk l k).1) i.toNat).length)) rfl (Zc rfl rfl (Iv 0) rfl (Za (Zb (Zt (Zu ?_)))))))
  rw [show Zw kk l k i = (Zc1 kk (Zai kk l k).1 i.toNat, 0) from by unfold Zw; rw [if_pos (by omega), if_pos (by omega)]]
  exact Za7 [0, 2] (v := .tuple #[slv 2 0 ((Zc1 kk ((Zai kk l k).1) i.toNat).length) ((Zc1 kk ((Zai kk l k).1) i.toNat).length), Iv 0]) rfl (by kernel_rfl) rfl rfl (by decide) (by simp [Za9, rwR, dsB, Zy]) ⟨⟨rfl, rfl, rfl, by first | omega | exact Nat.le_refl _ | exact Nat.zero_le _ | (dsimp only; omega), by first | omega | exact Nat.le_refl _ | exact Nat.zero_le _ | (dsimp only; omega)⟩, rfl, trivial⟩
  refine Z4 (e := [some (1, 0)]) (nid := 0) (Zqx (G := G) ((Zai kk l k).1) ((Zai kk l k).1.length) ((Zai kk l k).1.length) i (rfl : _ = _) (by omega)) (vals := [slv 1 0 ((Zai kk l k).1.length) ((Zai kk l k).1.length), Iv i]) (v := .tuple #[.slice none 0 0, Iv 20]) (H' := [rwR Zy l, dsB ((Zai kk l k).1), hole]) rfl rfl rfl rfl rfl rfl rfl ⟨⟨⟨rfl, rfl, rfl, by first | omega | exact Nat.le_refl _, by first | omega | exact Nat.le_refl _⟩, rfl, trivial⟩, ⟨(Zgp rfl), trivial⟩, rfl, rfl, rfl⟩ (by kernel_rfl) (by kernel_rfl) ?_
  refine Zp (vs := #[.slice none 0 0, Iv 20]) (v := .slice none 0 0) rfl rfl rfl rfl (Zp (vs := #[.slice none 0 0, Iv 20]) (v := Iv 20) rfl rfl rfl rfl (Zc rfl rfl (.slice none 0 0) rfl (Zc rfl rfl (Iv 20) rfl (Za (Zb ?_)))))
  refine Zb4 (Zbz.nilTmp (i := 6) (b := 2) true 32 rfl (by decide) rfl) ?_
  refine Zt (Zu ?_)
  rw [show Zw kk l k i = ([], 20) from by unfold Zw; rw [if_pos (by omega), if_neg (by omega)]]
  exact Za7 [0, 2] (v := .tuple #[slv 2 0 0 0, Iv 20]) rfl (by kernel_rfl) rfl rfl (by decide) (by simp [Za9, rwR, dsB, Zy]) ⟨⟨rfl, rfl, rfl, by first | omega | exact Nat.le_refl _ | exact Nat.zero_le _ | (dsimp only; omega), by first | omega | exact Nat.le_refl _ | exact Nat.zero_le _ | (dsimp only; omega)⟩, rfl, trivial⟩
end Go.Flat
namespace Go.Flat

abbrev Stp := D × Bool
def Zfa (size index : Nat) (ds : List D) : Option (List Stp) :=
  if h : size ≤ 1 then (if ds.length = 0 then some [] else none)
  else if ds.length = 0 then none
  else if index < Zan size then (Zfa (Zan size) index (ds.take (ds.length - 1))).map fun l => (ds.getD (ds.length - 1) d0, false) :: l
  else (Zfa (size - Zan size) (index - Zan size) (ds.take (ds.length - 1))).map fun l => (ds.getD (ds.length - 1) d0, true) :: l
termination_by size
decreasing_by
  · exact (Zdx (n := size) (by omega)).2
  · have := Zdx (n := size) (by omega); omega
theorem Zfr {size : Nat} (index : Nat) (ds : List D) (h : size ≤ 1) : Zfa size index ds = if ds.length = 0 then some [] else none := by
 rw [Zfa, dif_pos h]
theorem Zid {size : Nat} (index : Nat) {ds : List D} (h : 2 ≤ size) (h0 : ds.length = 0) : Zfa size index ds = none := by
 rw [Zfa, dif_neg (by omega), if_pos h0]
theorem Zhp {size index : Nat} {ds : List D} (h : 2 ≤ size) (h0 : 0 < ds.length) (hi : index < Zan size) : Zfa size index ds = (Zfa (Zan size) index (ds.take (ds.length - 1))).map fun l => (ds.getD (ds.length - 1) d0, false) :: l := by
 rw [Zfa, dif_neg (by omega), if_neg (by omega), if_pos hi]
theorem Zhu {size index : Nat} {ds : List D} (h : 2 ≤ size) (h0 : 0 < ds.length) (hi : Zan size ≤ index) : Zfa size index ds = (Zfa (size - Zan size) (index - Zan size) (ds.take (ds.length - 1))).map fun l => (ds.getD (ds.length - 1) d0, true) :: l := by
 rw [Zfa, dif_neg (by omega), if_neg (by omega), if_neg (by omega)]
theorem Zlw : ∀ (t : Nat) (size index : Nat) (ds : List D) (l : List Stp), size ≤ 2 ^ t → Zfa size index ds = some l → l.length = ds.length ∧ ds.length ≤ t
  | 0, size, index, ds, l, h, hw => by
    rw [Zfr index ds (by simpa using h)] at hw
    split at hw
    · rename_i h0
      injection hw with hw; subst hw
      exact ⟨h0.symm, by omega⟩
    · cases hw
  | t + 1, size, index, ds, l, h, hw => by
    by_cases h2 : 2 ≤ size
    · rcases Nat.eq_zero_or_pos ds.length with h0 | h0
      · rw [Zid index h2 h0] at hw; cases hw
      · have e := Zkv h2
        have h1 := Nat.log2_self_le (n := size - 1) (by omega)
        have h3 := Nat.lt_log2_self (n := size - 1)
        rw [Nat.pow_succ, ← e] at h3
        rw [← e] at h1
        have hk : Zan size ≤ 2 ^ t := by
          rw [e]
          refine Nat.pow_le_pow_right (by decide) ?_
          have : 2 ^ (size - 1).log2 < 2 ^ (t + 1) := by rw [← e]; omega
          have := (Nat.pow_lt_pow_iff_right (a := 2) (by decide)).1 this
          omega
        by_cases hi : index < Zan size
        · rw [Zhp h2 h0 hi] at hw
          obtain ⟨l', h4, rfl⟩ := Option.map_eq_some_iff.1 hw
          have := Zlw t _ _ _ _ hk h4
          simp at this ⊢
          omega
        · rw [Zhu h2 h0 (by omega)] at hw
          obtain ⟨l', h4, rfl⟩ := Option.map_eq_some_iff.1 hw
          have := Zlw t _ _ _ _ (by omega) h4
          simp at this ⊢
          omega
    · rw [Zfr index ds (by omega)] at hw
      split at hw
      · rename_i h0
        injection hw with hw; subst hw
        exact ⟨h0.symm, by omega⟩
      · cases hw
def knA (kk : Nat → BitVec 32) (leaf : D) : List Stp → List D
  | [] => [leaf]
  | (b, r) :: t => (if r then Ze8 kk b ((knA kk leaf t).getD 0 d0) else Ze8 kk ((knA kk leaf t).getD 0 d0) b) :: knA kk leaf t
theorem Zxv (kk : Nat → BitVec 32) (leaf : D) : ∀ l, (knA kk leaf l).length = l.length + 1
 | [] => rfl
 | (b, r) :: t => by simp [knA, Zxv kk leaf t]
def tx (a b : D) : ByteArray := Zof ++ Zn (dgL a) ++ Zn (dgL b)
def knT (kk : Nat → BitVec 32) (leaf : D) : List Stp → List ByteArray
  | [] => []
  | (b, r) :: t => (if r then tx b ((knA kk leaf t).getD 0 d0) else tx ((knA kk leaf t).getD 0 d0) b) :: knT kk leaf t
theorem Zsq (kk : Nat → BitVec 32) (leaf : D) : ∀ l, (knT kk leaf l).length = l.length
 | [] => rfl
 | (b, r) :: t => by simp [knT, Zsq kk leaf t]

def Zfc (l : List Stp) : List Value := (l.map fun p => Zac w8 32 p.1 ++ [Value.bool p.2]).flatten
def Zb8 (l : List Stp) : Blk := { cells := Zfc l, sz := 33, wr := true, fix := false, mv := true, pur := true }
def Ziv (l : List Stp) : Blk := { cells := Zfc l, sz := 33, wr := false, fix := false, mv := true, pur := true }
theorem Zmj (l : List Stp) : (Zfc l).length = l.length * 33 := by
 induction l with
 | nil => rfl
 | cons p l ih => simp only [Zfc, List.map_cons, List.flatten_cons, List.length_append, Zbs, List.length_cons, List.length_nil] at ih ⊢; omega
theorem Zuk (p q : List Stp) : Zfc (p ++ q) = Zfc p ++ Zfc q := by simp [Zfc]
theorem Zy0 (l : List Stp) : (Zfc l).all Zbk = true := by
 induction l with
 | nil => rfl
 | cons p l ih =>
  have : Zfc (p :: l) = Zac w8 32 p.1 ++ [Value.bool p.2] ++ Zfc l := by simp [Zfc]
  rw [this, List.all_append, List.all_append, Zq3, ih]; rfl
end Go.Flat
