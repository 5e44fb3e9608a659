/- Walks. -/
import Derived.Test.YtbjlgbejbolohaaDoorW2
import Derived.Test.YtbjlgbejbolohaaDoorFlatH
import Derived.Test.YtbjlgbejbolohaaDoorFlatJ
set_option linter.unusedVariables false
set_option linter.unusedSimpArgs false
set_option maxRecDepth 20000
namespace Go.Flat
open Go.Proofs
variable {G : Glob}
def dK (kk : Nat → BitVec 32) (P : List D) : Nat → D
  | 0 => Zbb kk []
  | k + 1 => Zj5 kk P k
theorem Z03 {kk : Nat → BitVec 32} {P : List D} {m k : Nat} (hm : P.length = m) (h : k = 0) : P.getD (m - k - 1) d0 = dK kk P (k + 1) := by
 subst h; subst hm; show P.getD (P.length - 0 - 1) d0 = _; rw [Nat.sub_zero]; rfl
theorem Zxr {kk : Nat → BitVec 32} {P : List D} {m k : Nat} (hm : P.length = m) (h : 0 < k) (h1 : k < m) : Zba kk (P.getD (m - k - 1) d0) (dK kk P k) = dK kk P (k + 1) := by
 obtain ⟨j, rfl⟩ : ∃ j, k = j + 1 := ⟨k - 1, by omega⟩
 show Zba kk (P.getD (m - (j + 1) - 1) d0) (Zj5 kk P j) = Zba kk (P.getD (P.length - 2 - j) d0) (Zj5 kk P j)
 rw [show m - (j + 1) - 1 = P.length - 2 - j by omega]
theorem Z38 (kk : Nat → BitVec 32) (ds : List D) : dK kk (Zar kk ds ds.length) (pcF ds.length) = Zm kk ds := by
 rcases Nat.eq_zero_or_pos ds.length with h | h
 ·obtain rfl : ds = [] := List.eq_nil_of_length_eq_zero h
  rw [show pcF ([] : List D).length = 0 from Zgr]; rfl
 ·have h1 := Zzs kk ds h
  rw [Ze4 kk ds, Zg4] at h1
  rw [h1]
  have : 0 < pcF ds.length := by rw [Ze3 h]; omega
  obtain ⟨j, hj⟩ : ∃ j, pcF ds.length = j + 1 := ⟨pcF ds.length - 1, by omega⟩
  rw [hj]; rfl
theorem Z0r (P : List D) (m c : Nat) (hm : P.length = m) (hc : m ≤ c) : Zac Tryd.prog G 22 [slv 0 0 m c] [dsR P] (.func (.func 49) #[] #[pt 1 0]) [dsR P, rfB (slv 0 0 m c)] := by
 refine Zb8 (fn := Tryd.f22) (nt := 4) rfl rfl rfl rfl ?_
 refine Zah 1 (H' := [dsR P, hole]) rfl ?_
 refine Ze (Zf ?_)
 refine Zdc (v := slv 0 0 m c) (b := rfB (slv 0 0 m c)) (nid := 1) (H' := [dsR P, rfB (slv 0 0 m c)]) rfl rfl rfl (by kernel_rfl) (by kernel_rfl) ?_
 refine Zc rfl rfl .nilFunc rfl (Za (Zb (Ze (Zf ?_))))
 refine Zfq (vs := []) (ws := [pt 1 0]) rfl rfl rfl rfl rfl ?_
 refine Zc rfl rfl (.func (.func 49) #[] #[pt 1 0]) rfl (Za (Zb (Zw (Zy ?_))))
 exact Zdg [0, 1] (v := .func (.func 49) #[] #[pt 1 0]) rfl (by kernel_rfl) rfl rfl (by decide) (by simp [Za1, dsR, rfB, Zhk, Zdz]) ⟨by simp [Zdr, Zck, Zkd, idE], by kernel_rfl⟩
theorem Zyp (kk : Nat → BitVec 32) (hG : G 0 = some (Zaa w32 64 kk)) (P : List D) (s m c : Nat) (hm : P.length = m) (hc : m ≤ c) (hb : m ≤ 100000) : Zw2 Tryd.prog G 49 [pt 4 0] m (fun k => [Iv ((m : Nat) - (k : Nat) - 1), dgV (P.getD (m - k - 1) d0)]) [dsR P, mxB 2 ([Iv (s : Nat), slv 0 0 m c]), dgB dz, dgB (dK kk P 0), rfB (slv 0 0 m c)] (fun k => [dsR P, mxB 2 ([Iv (s : Nat), slv 0 0 m c]), dgB dz, dgB (dK kk P k), rfB (slv 0 0 m c)]) (fun k => [dsR P, mxB 2 ([Iv (s : Nat), slv 0 0 m c]), dgB dz, dgB (dK kk P (k + 1)), rfB (slv 0 0 m c)]) (fun _ => True) [dsR P, mxB 2 ([Iv (s : Nat), slv 0 0 m c]), dgB dz, dgB (dK kk P m), rfB (slv 0 0 m c)] := by
 refine Zpe (fn := Tryd.f49) rfl rfl (nt := 19) rfl rfl rfl ?_
 intro E l' Stop hE hd hY
 refine Zib ?_
 refine Zmu (by kernel_rfl) ?_
 refine Zg (p := pt 4 0) (v := slv 0 0 m c) rfl rfl rfl rfl ?_
 refine Za6 (p := slv 0 0 m c) (v := Iv (m : Nat)) rfl rfl rfl rfl ?_
 refine Zi (vx := Iv (m : Nat)) (vy := Iv 1) rfl rfl (Iv ((m : Nat) - 1)) rfl rfl (Zb5 (by omega) (by omega) (by omega)) ?_
 refine Zc rfl rfl (Iv ((m : Nat) - 1)) rfl (Za (Zx (Zlu ?_)))
 refine Zxp hE (fun k : Nat => [.func (.yield l') #[] #[], pt 4 0, dead, Iv (((m : Nat) : Int) - ((k : Nat) : Int) - 1), slv 0 0 m c, Iv (m : Nat), Iv ((m : Nat) - 1)]) (fun k : Nat => [dsR P, mxB 2 ([Iv (s : Nat), slv 0 0 m c]), dgB dz, dgB (dK kk P k), rfB (slv 0 0 m c)]) (fun k : Nat => k ≤ m) (fun k : Nat => m - k) 0 (Nat.zero_le _) ?_ ?_
 ·refine Z2 (n := 5) rfl ?_ (by kernel_rfl) (by kernel_rfl)
  repeat (first | exact trivial | refine ⟨.inl rfl, ?_⟩ | refine ⟨.inr ⟨rfl, rfl⟩, ?_⟩ | refine ⟨.inr ⟨congrArg (Value.int .i64) (by first | omega | (dsimp only; omega)), rfl⟩, ?_⟩)
 rintro k hk
 have hks : ∀ j, j < k → True := fun _ _ => trivial
 refine Zib (Zib ?_)
 refine Zmu (by kernel_rfl) ?_
 refine Zd rfl rfl (Iv (((m : Nat) : Int) - ((k : Nat) : Int) - 1)) rfl ?_
 by_cases h1 : 0 ≤ ((m : Nat) : Int) - ((k : Nat) : Int) - 1
 refine Zi (vx := Iv (((m : Nat) : Int) - ((k : Nat) : Int) - 1)) (vy := Iv 0) rfl rfl (.bool true) rfl rfl (Zit (by omega)) ?_
 refine Za (Zx (Zxq rfl (Zn8 (Zx (Zib (Zlu (Zib ?_)))))))
 refine Ztp (fun w' h => ⟨w', h, rfl⟩) 6 rfl rfl rfl (by kernel_rfl) ?_
 refine Zd rfl rfl (.func (.yield l') #[] #[]) rfl (Zd rfl rfl (Iv (((m : Nat) : Int) - ((k : Nat) : Int) - 1)) rfl ?_)
 refine Zg (p := pt 4 0) (v := slv 0 0 m c) rfl rfl rfl rfl ?_
 refine Zd rfl rfl (Iv (((m : Nat) : Int) - ((k : Nat) : Int) - 1)) rfl ?_
 refine Zbe (b := 0) (o := 0) (j := (m - k - 1) * 32) (m := m) (c := c) (sz := 32) (i := ((m : Nat) : Int) - ((k : Nat) : Int) - 1) (k := .i64) rfl rfl rfl rfl rfl (by omega) (by omega) (by omega) ?_
 refine Zg (p := pt 0 ((m - k - 1) * 32)) (v := dgV (P.getD (m - k - 1) d0)) rfl rfl rfl (Zoe rfl rfl rfl (by have := hm; omega) (by omega)) ?_
 refine Ze8 ?_
 show Zqv _ _ _ _ _ _ _ _ _ _ _ _ _
 unfold Zqv
 refine ⟨l', [Iv (((m : Nat) : Int) - ((k : Nat) : Int) - 1), dgV (P.getD (m - k - 1) d0)], [dsR P, mxB 2 ([Iv (s : Nat), slv 0 0 m c]), dgB dz, dgB (dK kk P (k + 1)), rfB (slv 0 0 m c)], True, rfl, rfl, by decide, hY k (by omega) hks, fun hok => ?_, ?_⟩
 refine Zhl (vx := .bool true) rfl rfl (.bool false) rfl Zdu ?_
 refine Za (Zx (Zlv rfl (Zn8 (Zag (Zx ?_)))))
 refine Zmu (by kernel_rfl) ?_
 refine Zd rfl rfl (Iv (((m : Nat) : Int) - ((k : Nat) : Int) - 1)) rfl ?_
 refine Zi (vx := Iv (((m : Nat) : Int) - ((k : Nat) : Int) - 1)) (vy := Iv 1) rfl rfl (Iv (((m : Nat) : Int) - ((k : Nat) : Int) - 2)) rfl rfl (Zb5 (by omega) (by omega) (by omega)) ?_
 refine Zc rfl rfl (Iv (((m : Nat) : Int) - ((k : Nat) : Int) - 2)) rfl (Za ?_)
 refine Zx ⟨(k + 1), (show k + 1 ≤ m by omega), by show m - (k + 1) < m - k; omega, ?_⟩
 refine Z2 (n := 5) rfl ?_ (by kernel_rfl) (by kernel_rfl)
 repeat (first | exact trivial | refine ⟨.inl rfl, ?_⟩ | refine ⟨.inr ⟨rfl, rfl⟩, ?_⟩ | refine ⟨.inr ⟨congrArg (Value.int .i64) (by first | omega | (dsimp only; omega)), rfl⟩, ?_⟩)
 refine Zhl (vx := .bool false) rfl rfl (.bool true) rfl Zdu ?_
 refine Za (Zx (Zkp rfl (Zmt (Zbc (Zbw (Zbw (Zbc ?_)))))))
 exact ⟨.inr rfl⟩
 refine Zi (vx := Iv (((m : Nat) : Int) - ((k : Nat) : Int) - 1)) (vy := Iv 0) rfl rfl (.bool false) rfl rfl (Zis (by omega)) ?_
 refine Za (Zx (Zlv rfl (Zxo (Zav (Zav (Za2 rfl ?_))))))
 obtain rfl : k = m := by omega
 exact ⟨⟨.inl rfl, fun _ _ => trivial, _, Z2 (l := []) (n := 5) rfl trivial (by kernel_rfl) (by kernel_rfl)⟩⟩
theorem Z0b (kk : Nat → BitVec 32) (hG : G 0 = some (Zaa w32 64 kk)) (P : List D) (s m c : Nat) (hm : P.length = m) (hc : m ≤ c) (hs : s ≤ 100000) (hp : m = pcF s) : Zac Tryd.prog G 7 [mxV ([Iv (s : Nat), slv 0 0 m c])] [dsR P] (.tuple #[dgV (dK kk P m), Iv 0]) [dsR P] := by
  have hml : m ≤ 100000 := by have := Zsw s; omega
  refine Zac.introM (fn := Tryd.f7) rfl rfl (nt := 31) rfl rfl ?_
  refine Zgu (Zia ?_)
  refine Zn5 4 (H' := [dsR P, hole, hole, hole, hole]) rfl ?_
  refine Zcr (by kernel_rfl) ?_
  refine Zdc (v := mxV ([Iv (s : Nat), slv 0 0 m c])) (b := mxB 2 ([Iv (s : Nat), slv 0 0 m c])) (nid := 1) (H' := [dsR P, mxB 2 ([Iv (s : Nat), slv 0 0 m c]), hole, hole, hole]) rfl rfl rfl (by kernel_rfl) (by kernel_rfl) ?_
  refine Zq (b := dgB dz) (nid := 2) (H' := [dsR P, mxB 2 ([Iv (s : Nat), slv 0 0 m c]), dgB dz, hole, hole]) rfl rfl (by kernel_rfl) (by kernel_rfl) ?_
  refine Zc rfl rfl (Iv 0) rfl (Za (Zx (Zgu (Zgu (Zia ?_)))))
  refine Zcr (by kernel_rfl) ?_
  refine Zg (p := pt 1 0) (v := mxV ([Iv (s : Nat), slv 0 0 m c])) rfl rfl rfl (by kernel_rfl) ?_
  refine Zab (e := [some (0, 0)]) (nid := 0) (Zqu (G := G) P s m c hm (by omega) (by omega) (by omega)) (vals := [mxV ([Iv (s : Nat), slv 0 0 m c])]) (v := Iv 0) (H' := [dsR P, mxB 2 ([Iv (s : Nat), slv 0 0 m c]), dgB dz, hole, hole]) rfl rfl rfl rfl rfl rfl rfl ⟨⟨(Zlr (by kernel_rfl) ⟨⟨rfl, rfl⟩, ⟨rfl, rfl, rfl, by first | omega | exact Nat.le_refl _, by first | omega | exact Nat.le_refl _⟩, trivial⟩), trivial⟩, ⟨(Zoa rfl), trivial⟩, rfl, rfl, rfl⟩ rfl (by kernel_rfl) ?_
  refine Zc rfl rfl (Iv 0) rfl (Za (Zx (Zgu (Zia ?_))))
  refine Zcr (by kernel_rfl) ?_
  refine Zd rfl rfl (Iv 0) rfl ?_
  refine Zi (vx := Iv 0) (vy := Iv 0) rfl rfl (.bool false) rfl rfl (Zen (by omega)) ?_
  refine Za (Zx (Zia (Zj8 rfl (Zn6 (Zx (Zgu (Zia ?_)))))))
  refine Zcr (by kernel_rfl) ?_
  refine Zv (Zlm (G := G) kk hG) (vals := []) (res' := dgV (dK kk P 0)) rfl rfl rfl rfl rfl rfl ?_
  refine Zq (b := dgB dz) (nid := 3) (H' := [dsR P, mxB 2 ([Iv (s : Nat), slv 0 0 m c]), dgB dz, dgB dz, hole]) rfl rfl (by kernel_rfl) (by kernel_rfl) ?_
  refine Zj (p := pt 3 0) (v := dgV (dK kk P 0)) (b := 3) (blk := dgB (dK kk P 0)) (H' := [dsR P, mxB 2 ([Iv (s : Nat), slv 0 0 m c]), dgB dz, dgB (dK kk P 0), hole]) rfl rfl rfl (by kernel_rfl) (by kernel_rfl) ?_
  refine Za (Zx (Zgu (Zgu (Zia ?_))))
  refine Zcr (by kernel_rfl) ?_
  refine Zh (b := 1) (o := 0) (n := 1) (o' := 1) rfl rfl rfl rfl rfl ?_
  refine Zg (p := pt 1 1) (v := slv 0 0 m c) rfl rfl rfl (by kernel_rfl) ?_
  refine Zab (e := [some (0, 0)]) (nid := 4) (Z0r (G := G) P m c hm (by omega)) (vals := [slv 0 0 m c]) (v := .func (.func 49) #[] #[pt 4 0]) (H' := [dsR P, mxB 2 ([Iv (s : Nat), slv 0 0 m c]), dgB dz, dgB (dK kk P 0), rfB (slv 0 0 m c)]) rfl rfl rfl rfl rfl rfl rfl ⟨⟨⟨rfl, rfl, rfl, by first | omega | exact Nat.le_refl _, by first | omega | exact Nat.le_refl _⟩, trivial⟩, ⟨(Zoa rfl), trivial⟩, rfl, rfl, rfl⟩ (by kernel_rfl) (by kernel_rfl) ?_
  refine Za (Zx ?_)
  have hiter := Zyp (G := G) kk hG P s m c hm hc (by omega)
  refine Ztm (lbs := #[pt 4 0]) (iter := hiter) rfl rfl rfl (by intro _ _; rfl) (by kernel_rfl) ?_ ?_
  · intro lp k hk hks
    refine Zn5 1 (H' := [dsR P, mxB 2 ([Iv (s : Nat), slv 0 0 m c]), dgB dz, dgB (dK kk P k), rfB (slv 0 0 m c), hole]) rfl ?_
    refine Ze7 ?_
    refine Zcr (by kernel_rfl) ?_
    refine Zc rfl rfl (Iv (((m : Nat) : Int) - ((k : Nat) : Int) - 1)) rfl (Za (Zx ?_))
    refine Zcr (by kernel_rfl) ?_
    refine Zq (b := dgB dz) (nid := 5) (H' := [dsR P, mxB 2 ([Iv (s : Nat), slv 0 0 m c]), dgB dz, dgB (dK kk P k), rfB (slv 0 0 m c), dgB dz]) rfl rfl (by kernel_rfl) (by kernel_rfl) ?_
    refine Zj (p := pt 5 0) (v := dgV (P.getD (m - k - 1) d0)) (b := 5) (blk := dgB (P.getD (m - k - 1) d0)) (H' := [dsR P, mxB 2 ([Iv (s : Nat), slv 0 0 m c]), dgB dz, dgB (dK kk P k), rfB (slv 0 0 m c), dgB (P.getD (m - k - 1) d0)]) rfl rfl rfl (by kernel_rfl) (by kernel_rfl) ?_
    refine Za (Zx (Zto (Ze7 ?_)))
    refine Zcr (by kernel_rfl) ?_
    refine Zd rfl rfl (Iv (((m : Nat) : Int) - ((k : Nat) : Int) - 1)) rfl ?_
    refine Zh (b := 1) (o := 0) (n := 1) (o' := 1) rfl rfl rfl rfl rfl ?_
    refine Zg (p := pt 1 1) (v := slv 0 0 m c) rfl rfl rfl (by kernel_rfl) ?_
    refine Za6 (p := slv 0 0 m c) (v := Iv (m : Nat)) rfl rfl rfl rfl ?_
    refine Zi (vx := Iv (m : Nat)) (vy := Iv 1) rfl rfl (Iv ((m : Nat) - 1)) rfl rfl (Zb5 (by omega) (by omega) (by omega)) ?_
    by_cases h1 : ((m : Nat) : Int) - ((k : Nat) : Int) - 1 = (m : Nat) - 1
    refine Zi (vx := Iv (((m : Nat) : Int) - ((k : Nat) : Int) - 1)) (vy := Iv ((m : Nat) - 1)) rfl rfl (.bool true) rfl rfl (Zd2 (by omega)) ?_
    refine Za (Zx (Zkp rfl ?_))
    refine Zcr (by kernel_rfl) ?_
    refine Zg (p := pt 5 0) (v := dgV (P.getD (m - k - 1) d0)) rfl rfl rfl (by kernel_rfl) ?_
    refine Zj (p := pt 3 0) (v := dgV (P.getD (m - k - 1) d0)) (b := 3) (blk := dgB (P.getD (m - k - 1) d0)) (H' := [dsR P, mxB 2 ([Iv (s : Nat), slv 0 0 m c]), dgB dz, dgB (P.getD (m - k - 1) d0), rfB (slv 0 0 m c), dgB (P.getD (m - k - 1) d0)]) rfl rfl rfl (by kernel_rfl) (by kernel_rfl) ?_
    refine Za (Zag ?_)
    rw [show (P.getD (m - k - 1) d0) = dK kk P (k + 1) from by first | exact Z03 hm (by omega) | exact Zxr hm (by omega) (by omega)]
    exact ⟨⟨trivial, _, Z2 (l := []) (n := 5) rfl trivial (by kernel_rfl) (by kernel_rfl)⟩⟩
    refine Zi (vx := Iv (((m : Nat) : Int) - ((k : Nat) : Int) - 1)) (vy := Iv ((m : Nat) - 1)) rfl rfl (.bool false) rfl rfl (Zfc (by omega)) ?_
    refine Za (Zx (Zj8 rfl ?_))
    refine Zcr (by kernel_rfl) ?_
    refine Zg (p := pt 5 0) (v := dgV (P.getD (m - k - 1) d0)) rfl rfl rfl (by kernel_rfl) ?_
    refine Zg (p := pt 3 0) (v := dgV (dK kk P k)) rfl rfl rfl (by kernel_rfl) ?_
    refine Zv (Zhs (G := G) kk hG (P.getD (m - k - 1) d0) (dK kk P k)) (vals := [dgV (P.getD (m - k - 1) d0), dgV (dK kk P k)]) (res' := dgV (Zba kk (P.getD (m - k - 1) d0) (dK kk P k))) rfl rfl rfl rfl rfl rfl ?_
    refine Zj (p := pt 3 0) (v := dgV (Zba kk (P.getD (m - k - 1) d0) (dK kk P k))) (b := 3) (blk := dgB (Zba kk (P.getD (m - k - 1) d0) (dK kk P k))) (H' := [dsR P, mxB 2 ([Iv (s : Nat), slv 0 0 m c]), dgB dz, dgB (Zba kk (P.getD (m - k - 1) d0) (dK kk P k)), rfB (slv 0 0 m c), dgB (P.getD (m - k - 1) d0)]) rfl rfl rfl (by kernel_rfl) (by kernel_rfl) ?_
    refine Za (Zag ?_)
    rw [show (Zba kk (P.getD (m - k - 1) d0) (dK kk P k)) = dK kk P (k + 1) from by first | exact Z03 hm (by omega) | exact Zxr hm (by omega) (by omega)]
    exact ⟨⟨trivial, _, Z2 (l := []) (n := 5) rfl trivial (by kernel_rfl) (by kernel_rfl)⟩⟩
  intro hall
  show CW none _ _ _ _ _ _ _
  refine Ze7 ?_
  refine Zcr (by kernel_rfl) ?_
  refine Zg (p := pt 3 0) (v := dgV (dK kk P m)) rfl rfl rfl (by kernel_rfl) ?_
  refine Zj (p := pt 2 0) (v := dgV (dK kk P m)) (b := 2) (blk := dgB (dK kk P m)) (H' := [dsR P, mxB 2 ([Iv (s : Nat), slv 0 0 m c]), dgB (dK kk P m), dgB (dK kk P m), rfB (slv 0 0 m c)]) rfl rfl rfl (by kernel_rfl) (by kernel_rfl) ?_
  refine Zc rfl rfl (Iv 0) rfl (Za (Zx (Zmt (Zbw (Zy ?_)))))
  exact Zdg [0] (v := .tuple #[dgV (dK kk P m), Iv 0]) (by kernel_rfl) (by kernel_rfl) rfl rfl (by decide) (by simp [Za1, dsR]) ⟨(Za7 (Zaz fun _ => rfl) rfl), rfl, trivial⟩
end Go.Flat
namespace Go.Flat
open Go.Proofs
variable {G : Glob}
structure Field where
  tag : Int
  data : ByteArray
def fdC (f : Field) : List Value := [.int .i64 f.tag, .string f.data]
def fdV (f : Field) : Value := .agg (fdC f).toArray
def cFd : Cod Field := ⟨fdC, 2, fun _ => rfl, by decide⟩
instance : Inhabited Field := ⟨⟨0, ⟨#[]⟩⟩⟩

def Zkf : Nat → Nat → Nat → D → Bs
  | 0, _, a, b => (Zhm 8 b).drop a
  | f + 1, n, a, b => if n = 0 then (Zhm 8 b).drop a else Zkf f (n / 256) (a - 1) (Ze9 b (a - 1) (BitVec.ofInt 8 (n : Int)))
theorem Zzm (f a : Nat) (b : D) : Zkf f 0 a b = (Zhm 8 b).drop a := by cases f <;> simp [Zkf]
theorem Zv9 {k a : Nat} (hk : k < 256 ^ a) (h : 1 ≤ k) : 1 ≤ a := by
 cases a with
 | zero => simp at hk; omega
 | succ a => omega
theorem Zzl {a k q a' : Nat} {b : D} {x : BitVec 8} {R : Bs} (hR : Zkf a k a b = R) (hk : k < 256 ^ a) (h1 : 0 < k) (hx : x = BitVec.ofInt 8 (k : Int)) (ha' : a = a' + 1) (hq : q = k / 256 := by rfl) (h8 : a ≤ 8 := by omega) : Zkf a' q a' (Ze9 b a' x) = R ∧ q < 256 ^ a' ∧ a' ≤ 8 := by
 subst ha'; subst hx; subst hq
 refine ⟨?_, ?_, by omega⟩
 ·rw [Zkf, if_neg (by omega)] at hR; exact hR
 ·rw [Nat.pow_succ] at hk; exact Nat.div_lt_of_lt_mul (by omega)
def Zao (n : Int) : ByteArray × Int := if 0 ≤ n ∧ n ≤ 4611686018427387903 then (Zs (Zkf 8 n.toNat 8 dz), 0) else (⟨#[]⟩, 1)
theorem Zyh (n : Int) (hl : -9223372036854775808 ≤ n) (hh : n ≤ 9223372036854775807) : Zac Tryd.prog G 52 [Iv n] [] (.tuple #[.string (Zao n).1, Iv (Zao n).2]) [] := by
  refine Zb8 (fn := Tryd.f52) (nt := 25) rfl rfl rfl rfl ?_
  refine Zah 1 (H' := [hole]) rfl ?_
  refine Ze (Zf (Zc rfl rfl (.string ⟨#[]⟩) rfl (Zc rfl rfl (Iv 0) rfl (Za (Zb (Ze (Ze (Zf (Zd rfl rfl (Iv n) rfl ?_)))))))))
  by_cases h1 : n < 0
  refine Zi (vx := Iv n) (vy := Iv 0) rfl rfl (.bool true) rfl rfl (Zcv (by omega)) ?_
  refine Zd rfl rfl (.bool true) rfl (Zn rfl rfl (Zn rfl rfl (Zp rfl rfl (.bool true) rfl (Za (Zb (Zu rfl (Ze (Zf (Zc rfl rfl (.string ⟨#[]⟩) rfl (Zc rfl rfl (Iv 1) rfl (Za (Zb (Zw (Zaj (Zy ?_)))))))))))))))
  rw [show Zao n = (⟨#[]⟩, 1) from if_neg (by omega)]
  exact Zo (v := .tuple #[.string ⟨#[]⟩, Iv 1]) rfl rfl rfl (by kernel_rfl) ⟨rfl, rfl, trivial⟩
  refine Zi (vx := Iv n) (vy := Iv 0) rfl rfl (.bool false) rfl rfl (Zbv (by omega)) ?_
  refine Zd rfl rfl (.bool false) rfl (Zd rfl rfl (Iv n) rfl ?_)
  by_cases h2 : 4611686018427387903 < n
  refine Zi (vx := Iv n) (vy := Iv 4611686018427387903) rfl rfl (.bool true) rfl rfl (Zde (by omega)) ?_
  refine Zp rfl rfl (.bool true) rfl (Za (Zb (Zu rfl (Ze (Zf (Zc rfl rfl (.string ⟨#[]⟩) rfl (Zc rfl rfl (Iv 1) rfl (Za (Zb (Zw (Zaj (Zy ?_))))))))))))
  rw [show Zao n = (⟨#[]⟩, 1) from if_neg (by omega)]
  exact Zo (v := .tuple #[.string ⟨#[]⟩, Iv 1]) rfl rfl rfl (by kernel_rfl) ⟨rfl, rfl, trivial⟩
  refine Zi (vx := Iv n) (vy := Iv 4611686018427387903) rfl rfl (.bool false) rfl rfl (Zcw (by omega)) ?_
  refine Zp rfl rfl (.bool false) rfl (Za (Zb (Zr rfl (Z0 (Zb (Ze ?_))))))
  obtain ⟨m, rfl⟩ : ∃ x0 : Nat, n = (x0 : Int) := ⟨n.toNat, by omega⟩
  refine Zf ?_
  refine Zq (b := bxB 8 (Zaa w8 8 dz)) (nid := 0) (H' := [bxB 8 (Zaa w8 8 dz)]) rfl rfl (by kernel_rfl) (by kernel_rfl) ?_
  refine Za (Zb (Ze (Zf (Zc rfl rfl (Iv 8) rfl (Za (Zb (Ze (Z1 ?_))))))))
  refine Zby (fun x : Nat × Nat × D => match x with | (k, a, b) => [Iv (k : Nat), dead, .string ⟨#[]⟩, Iv 0, pt 0 0, Iv (a : Nat), Iv (m : Nat), .bool false, .bool false, Iv (m : Nat), .bool false, .bool false]) (fun x : Nat × Nat × D => match x with | (k, a, b) => [bxB 8 (Zaa w8 8 b)]) (fun x : Nat × Nat × D => match x with | (k, a, b) => Zkf a k a b = Zkf 8 m 8 dz ∧ k < 256 ^ a ∧ a ≤ 8) (fun x : Nat × Nat × D => match x with | (k, a, b) => a) (m, 8, dz) ⟨rfl, by omega, by omega⟩ ?_ ?_
  · refine Z2 (n := 1) rfl ?_ (by kernel_rfl) (by kernel_rfl)
    repeat (first | exact trivial | refine ⟨.inl rfl, ?_⟩ | refine ⟨.inr ⟨rfl, rfl⟩, ?_⟩ | refine ⟨.inr ⟨congrArg (Value.int .i64) (by first | omega | (dsimp only; omega)), rfl⟩, ?_⟩)
  rintro ⟨k, a, b⟩ ⟨hR, hk, ha⟩
  dsimp only at *
  refine Ze (Ze (Zf (Zd rfl rfl (Iv (k : Nat)) rfl ?_)))
  by_cases h3 : 0 < (k : Nat)
  refine Zi (vx := Iv (k : Nat)) (vy := Iv 0) rfl rfl (.bool true) rfl rfl (Zde (by omega)) ?_
  refine Za (Zb (Zu rfl (Z0 (Zb (Ze (Z1 (Ze ?_)))))))
  have h1a := Zv9 hk (by omega)
  refine Zf (Zd rfl rfl (Iv (a : Nat)) rfl ?_)
  refine Zi (vx := Iv (a : Nat)) (vy := Iv 1) rfl rfl (Iv ((a : Nat) - 1)) rfl rfl (Zb5 (by omega) (by omega) (by omega)) ?_
  refine Zc rfl rfl (Iv ((a : Nat) - 1)) rfl (Za (Zb (Zf (Zd rfl rfl (Iv ((a : Nat) - 1)) rfl (Zd rfl rfl (Iv (k : Nat)) rfl ?_)))))
  refine Zcc (w := Iv (k : Nat)) (v := w8 (BitVec.ofInt 8 (k : Nat))) rfl rfl rfl (Zgn rfl rfl rfl) ?_
  refine Zdq (b := 0) (o := 0) (j := a - 1) (n := 8) (sz := 1) (i := (a : Nat) - 1) (k := .i64) rfl rfl rfl rfl rfl (by omega) (by omega) (by omega) ?_
  refine Zj (p := pt 0 (a - 1)) (v := w8 (BitVec.ofInt 8 (k : Nat))) (b := 0) (blk := bxB 8 (Zaa w8 8 (Ze9 b (a - 1) (BitVec.ofInt 8 (k : Nat))))) (H' := [bxB 8 (Zaa w8 8 (Ze9 b (a - 1) (BitVec.ofInt 8 (k : Nat))))]) rfl rfl rfl (Zho (blk := bxB 8 (Zaa w8 8 b)) (i := a - 1) (enc := w8) (n := 8) (w := b) (x := (BitVec.ofInt 8 (k : Nat))) rfl rfl rfl rfl rfl (by omega) rfl rfl) (by kernel_rfl) ?_
  refine Za (Zag (Zb (Zf (Zd rfl rfl (Iv (k : Nat)) rfl ?_))))
  refine Zi (vx := Iv (k : Nat)) (vy := .int .u64 8) rfl rfl (Iv (((k / 256) : Nat) : Int)) rfl rfl (Z2g 8 (by omega) (by omega) (by omega) (by omega)) ?_
  refine Zc rfl rfl (Iv (((k / 256) : Nat) : Int)) rfl (Za ?_)
  refine Zx ⟨((k / 256), (a - 1), (Ze9 b (a - 1) (BitVec.ofInt 8 (k : Nat)))), Zzl (a' := a - 1) hR hk (by omega) rfl (by omega), by show a - 1 < a; omega, ?_⟩
  refine Z2 (n := 1) rfl ?_ (by kernel_rfl) (by kernel_rfl)
  repeat (first | exact trivial | refine ⟨.inl rfl, ?_⟩ | refine ⟨.inr ⟨rfl, rfl⟩, ?_⟩ | refine ⟨.inr ⟨congrArg (Value.int .i64) (by first | omega | (dsimp only; omega)), rfl⟩, ?_⟩)
  refine Zi (vx := Iv (k : Nat)) (vy := Iv 0) rfl rfl (.bool false) rfl rfl (Zcw (by omega)) ?_
  refine Za (Zb (Zr rfl (Zbx (Zay (Zav (Za2 rfl (Zb (Ze (Zf (Zd rfl rfl (Iv (a : Nat)) rfl ?_))))))))))
  refine Zci (p := pt 0 0) (vl := some (Iv (a : Nat))) (vh := none) (v := slv 0 a (8 - a) (8 - a)) rfl rfl rfl rfl rfl (Zzw (sz := 1) (l := a) (h := 8) rfl rfl rfl (Z48 (by omega) (by omega)) rfl (by omega) (by omega) (by omega)) ?_
  refine Zgy (p := slv 0 a (8 - a) (8 - a)) (v := .string (Zs (((Zhm 8 b).drop a).take (8 - a)))) rfl rfl rfl (Zs5 (l := Zhm 8 b) rfl rfl rfl rfl (Zzu _ _) (by rw [Zi1]; omega) rfl) ?_
  refine Zc rfl rfl (.string (Zs (((Zhm 8 b).drop a).take (8 - a)))) rfl (Zc rfl rfl (Iv 0) rfl (Za (Zb (Zw (Zy ?_)))))
  have e : Zao (m : Nat) = ((Zs (((Zhm 8 b).drop a).take (8 - a))), 0) := by
    rw [show Zao (m : Nat) = (Zs (Zkf 8 m 8 dz), 0) from if_pos (by omega), ← hR]
    obtain rfl : k = 0 := by omega
    rw [Zzm, List.take_of_length_le (by rw [List.length_drop, Zi1]; omega)]
  rw [e]
  exact Zo (v := .tuple #[.string (Zs (((Zhm 8 b).drop a).take (8 - a))), Iv 0]) rfl rfl rfl (by kernel_rfl) ⟨rfl, rfl, trivial⟩
end Go.Flat
namespace Go.Flat
open Go.Proofs
variable {G : Glob}
def Zgo (f : Field) : Bs := [BitVec.ofInt 8 f.tag, BitVec.ofInt 8 (f.data.size / 65536 : Nat), BitVec.ofInt 8 (f.data.size / 256 : Nat), BitVec.ofInt 8 (f.data.size : Nat)] ++ bl f.data
def Zf7 (f : Field) (last : Int) : Int :=
  if 255 < f.tag then 1 else
  if f.tag ≤ last then 1 else
  if 65536 < (f.data.size : Nat) then 2 else
  0
theorem Z6u (f : Field) (last : Int) : Zac Tryd.prog G 64 [fdV f, Iv last] [] (Iv (Zf7 f last)) [] := by
 refine Zb8 (fn := Tryd.f64) (nt := 21) rfl rfl rfl rfl ?_
 refine Zah 1 (H' := [hole]) rfl ?_
 refine Ze (Zf ?_)
 refine Zdc (v := fdV f) (b := bxB 2 (fdC f)) (nid := 0) (H' := [bxB 2 (fdC f)]) rfl rfl rfl (by kernel_rfl) (by kernel_rfl) ?_
 refine Zc rfl rfl (Iv 0) rfl (Za (Zb (Ze (Zf (Zc rfl rfl (Iv 0) rfl (Za (Zb (Ze (Z1 (Ze (Z1 (Ze (Z1 (Z1 (Ze (Ze (Ze (Zf ?_))))))))))))))))))
 refine Zh (b := 0) (o := 0) (n := 0) (o' := 0) rfl rfl rfl rfl rfl ?_
 refine Zg (p := pt 0 0) (v := Iv f.tag) rfl rfl rfl (by kernel_rfl) ?_
 by_cases h1 : 255 < f.tag
 refine Zi (vx := Iv f.tag) (vy := Iv 255) rfl rfl (.bool true) rfl rfl (Zde (by omega)) ?_
 refine Zc rfl rfl (.bool true) rfl (Za (Zb (Zu rfl (Zbx (Zay (Zay (Za2 rfl (Zag (Zb (Ze (Zf (Zc rfl rfl (Iv 1) rfl (Za (Zb (Zbx (Zns rfl (Zay (Za2 rfl (Zb (Ze (Zf (Zd rfl rfl (Iv 1) rfl (Zc rfl rfl (Iv 1) rfl (Za (Zb (Zw (Zy ?_)))))))))))))))))))))))))))
 rw [show Zf7 f last = 1 from by unfold Zf7; rw [if_pos h1]]
 exact Zo (v := Iv 1) rfl rfl rfl (by kernel_rfl) rfl
 refine Zi (vx := Iv f.tag) (vy := Iv 255) rfl rfl (.bool false) rfl rfl (Zcw (by omega)) ?_
 refine Zc rfl rfl (.bool false) rfl (Za (Zb (Zr rfl (Z0 (Zb (Ze (Ze (Zf ?_))))))))
 refine Zh (b := 0) (o := 0) (n := 0) (o' := 0) rfl rfl rfl rfl rfl ?_
 refine Zg (p := pt 0 0) (v := Iv f.tag) rfl rfl rfl (by kernel_rfl) ?_
 refine Zd rfl rfl (Iv last) rfl ?_
 by_cases h2 : f.tag ≤ last
 refine Zi (vx := Iv f.tag) (vy := Iv last) rfl rfl (.bool true) rfl rfl (Zre (by omega)) ?_
 refine Zc rfl rfl (.bool true) rfl (Za (Zb (Zu rfl (Zbx (Zay (Zay (Zns rfl (Za2 rfl (Zb (Ze (Zf (Zc rfl rfl (Iv 1) rfl (Za (Zb (Zbx (Zns rfl (Zay (Za2 rfl (Zb (Ze (Zf (Zd rfl rfl (Iv 1) rfl (Zc rfl rfl (Iv 1) rfl (Za (Zb (Zw (Zy ?_)))))))))))))))))))))))))))
 rw [show Zf7 f last = 1 from by unfold Zf7; rw [if_neg h1, if_pos h2]]
 exact Zo (v := Iv 1) rfl rfl rfl (by kernel_rfl) rfl
 refine Zi (vx := Iv f.tag) (vy := Iv last) rfl rfl (.bool false) rfl rfl (Zrd (by omega)) ?_
 refine Zc rfl rfl (.bool false) rfl (Za (Zb (Zr rfl (Z0 (Zb (Ze (Zf ?_)))))))
 refine Zh (b := 0) (o := 0) (n := 1) (o' := 1) rfl rfl rfl rfl rfl ?_
 refine Zg (p := pt 0 1) (v := .string f.data) rfl rfl rfl (by kernel_rfl) ?_
 refine Za6 (p := .string f.data) (v := Iv (f.data.size : Nat)) rfl rfl rfl rfl ?_
 by_cases h3 : 65536 < (f.data.size : Nat)
 refine Zi (vx := Iv (f.data.size : Nat)) (vy := Iv 65536) rfl rfl (.bool true) rfl rfl (Zde (by omega)) ?_
 refine Zc rfl rfl (.bool true) rfl (Za (Zb (Zu rfl (Zbx (Zay (Zns rfl (Zns rfl (Zay (Za2 rfl (Zb (Ze (Zf (Zc rfl rfl (Iv 2) rfl (Za (Zb (Zbx (Za2 rfl (Zb (Ze (Zf (Zd rfl rfl (Iv 2) rfl (Zc rfl rfl (Iv 2) rfl (Za (Zb (Zw (Zy ?_))))))))))))))))))))))))))
 rw [show Zf7 f last = 2 from by unfold Zf7; rw [if_neg h1, if_neg h2, if_pos h3]]
 exact Zo (v := Iv 2) rfl rfl rfl (by kernel_rfl) rfl
 refine Zi (vx := Iv (f.data.size : Nat)) (vy := Iv 65536) rfl rfl (.bool false) rfl rfl (Zcw (by omega)) ?_
 refine Zc rfl rfl (.bool false) rfl (Za (Zb (Zr rfl (Z0 (Zb (Zbx (Zns rfl (Zns rfl (Zay (Zns rfl (Zay (Za2 rfl (Zb (Ze (Zf (Zd rfl rfl (Iv 0) rfl (Zc rfl rfl (Iv 0) rfl (Za (Zb (Zw (Zy ?_)))))))))))))))))))))
 rw [show Zf7 f last = 0 from by unfold Zf7; rw [if_neg h1, if_neg h2, if_neg h3]]
 exact Zo (v := Iv 0) rfl rfl rfl (by kernel_rfl) rfl
theorem Z61 (l : Bs) (f : Field) (n c : Nat) (hn : l.length = n) (hc : n ≤ c) (hf : f.data.size ≤ 65536) (hb : n ≤ 1099511627776) : Zac Tryd.prog G 65 [slv 0 0 n c, fdV f] [Zan l] (slv 0 0 (n + f.data.size + 4) (n + f.data.size + 4)) [Zan (l ++ Zgo f)] := by
  refine Zb8 (fn := Tryd.f65) (nt := 26) rfl rfl rfl rfl ?_
  refine Zah 2 (H' := [Zan l, hole, hole]) rfl ?_
  refine Ze (Zf ?_)
  refine Zdc (v := fdV f) (b := bxB 2 (fdC f)) (nid := 1) (H' := [Zan l, bxB 2 (fdC f), hole]) rfl rfl rfl (by kernel_rfl) (by kernel_rfl) ?_
  refine Zc rfl rfl (.slice none 0 0) rfl (Za (Zb (Ze (Zf ?_))))
  refine Zh (b := 1) (o := 0) (n := 1) (o' := 1) rfl rfl rfl rfl rfl ?_
  refine Zg (p := pt 1 1) (v := .string f.data) rfl rfl rfl (by kernel_rfl) ?_
  refine Za6 (p := .string f.data) (v := Iv (f.data.size : Nat)) rfl rfl rfl rfl ?_
  refine Zc rfl rfl (Iv (f.data.size : Nat)) rfl (Za (Zb (Ze ?_)))
  refine Zfs (by kernel_rfl) ?_
  refine Zd rfl rfl (slv 0 0 n c) rfl ?_
  refine Zh (b := 1) (o := 0) (n := 0) (o' := 0) rfl rfl rfl rfl rfl ?_
  refine Zg (p := pt 1 0) (v := Iv f.tag) rfl rfl rfl (by kernel_rfl) ?_
  refine Zcc (w := Iv f.tag) (v := w8 (BitVec.ofInt 8 f.tag)) rfl rfl rfl (Zgn rfl rfl rfl) ?_
  refine Zd rfl rfl (Iv (f.data.size : Nat)) rfl ?_
  refine Zi (vx := Iv (f.data.size : Nat)) (vy := .int .u64 16) rfl rfl (Iv (((f.data.size / 65536) : Nat) : Int)) rfl rfl (Z2g 16 (by omega) (by omega) (by omega) (by omega)) ?_
  refine Zcc (w := Iv (((f.data.size / 65536) : Nat) : Int)) (v := w8 (BitVec.ofInt 8 (((f.data.size / 65536) : Nat) : Int))) rfl rfl rfl (Zgn rfl rfl rfl) ?_
  refine Zd rfl rfl (Iv (f.data.size : Nat)) rfl ?_
  refine Zi (vx := Iv (f.data.size : Nat)) (vy := .int .u64 8) rfl rfl (Iv (((f.data.size / 256) : Nat) : Int)) rfl rfl (Z2g 8 (by omega) (by omega) (by omega) (by omega)) ?_
  refine Zcc (w := Iv (((f.data.size / 256) : Nat) : Int)) (v := w8 (BitVec.ofInt 8 (((f.data.size / 256) : Nat) : Int))) rfl rfl rfl (Zgn rfl rfl rfl) ?_
  refine Zd rfl rfl (Iv (f.data.size : Nat)) rfl ?_
  refine Zcc (w := Iv (f.data.size : Nat)) (v := w8 (BitVec.ofInt 8 (f.data.size : Nat))) rfl rfl rfl (Zgn rfl rfl rfl) ?_
  refine Zdd (vs := [(0, w8 (BitVec.ofInt 8 f.tag)), (1, w8 (BitVec.ofInt 8 (((f.data.size / 65536) : Nat) : Int))), (2, w8 (BitVec.ofInt 8 (((f.data.size / 256) : Nat) : Int))), (3, w8 (BitVec.ofInt 8 (f.data.size : Nat)))]) (v := slv 2 0 4 4) (blk := Zan [(BitVec.ofInt 8 f.tag), (BitVec.ofInt 8 (((f.data.size / 65536) : Nat) : Int)), (BitVec.ofInt 8 (((f.data.size / 256) : Nat) : Int)), (BitVec.ofInt 8 (f.data.size : Nat))]) (nid := 2) (H' := [Zan l, bxB 2 (fdC f), Zan [(BitVec.ofInt 8 f.tag), (BitVec.ofInt 8 (((f.data.size / 65536) : Nat) : Int)), (BitVec.ofInt 8 (((f.data.size / 256) : Nat) : Int)), (BitVec.ofInt 8 (f.data.size : Nat))]]) rfl rfl rfl (by kernel_rfl) (by kernel_rfl) ?_
  have hl3 : (l ++ [(BitVec.ofInt 8 f.tag), (BitVec.ofInt 8 (((f.data.size / 65536) : Nat) : Int)), (BitVec.ofInt 8 (((f.data.size / 256) : Nat) : Int)), (BitVec.ofInt 8 (f.data.size : Nat))]).length = n + 4 := by have := hn; have := (rfl : _ = 4); first | (rw [List.length_append]; omega) | (simp; omega) | simp
  refine Za5 (p := slv 0 0 n c) (q := slv 2 0 4 4) (v := slv 0 0 (n + 4) (n + 4)) (b := 0) (blk := Zan (l ++ [(BitVec.ofInt 8 f.tag), (BitVec.ofInt 8 (((f.data.size / 65536) : Nat) : Int)), (BitVec.ofInt 8 (((f.data.size / 256) : Nat) : Int)), (BitVec.ofInt 8 (f.data.size : Nat))])) (H' := [Zan (l ++ [(BitVec.ofInt 8 f.tag), (BitVec.ofInt 8 (((f.data.size / 65536) : Nat) : Int)), (BitVec.ofInt 8 (((f.data.size / 256) : Nat) : Int)), (BitVec.ofInt 8 (f.data.size : Nat))]), bxB 2 (fdC f), Zan [(BitVec.ofInt 8 f.tag), (BitVec.ofInt 8 (((f.data.size / 65536) : Nat) : Int)), (BitVec.ofInt 8 (((f.data.size / 256) : Nat) : Int)), (BitVec.ofInt 8 (f.data.size : Nat))]]) rfl rfl rfl (.inl ⟨_, rfl⟩) rfl rfl (Ztf (by_ := 1) (n' := n + 4) rfl rfl (Z2j rfl rfl (by have := (rfl : _ = 4); omega)) rfl rfl (by have := hn; omega) (by omega) (by decide) (by omega)) rfl (by kernel_rfl) ?_
  refine Zh (b := 1) (o := 0) (n := 1) (o' := 1) rfl rfl rfl rfl rfl ?_
  refine Zg (p := pt 1 1) (v := .string f.data) rfl rfl rfl (by kernel_rfl) ?_
  have hl4 : ((l ++ [(BitVec.ofInt 8 f.tag), (BitVec.ofInt 8 (((f.data.size / 65536) : Nat) : Int)), (BitVec.ofInt 8 (((f.data.size / 256) : Nat) : Int)), (BitVec.ofInt 8 (f.data.size : Nat))]) ++ (bl f.data)).length = n + f.data.size + 4 := by have := hl3; have := (Zes f.data); first | (rw [List.length_append]; omega) | (simp; omega) | simp
  refine Za5 (p := slv 0 0 (n + 4) (n + 4)) (q := .string f.data) (v := slv 0 0 (n + f.data.size + 4) (n + f.data.size + 4)) (b := 0) (blk := Zan ((l ++ [(BitVec.ofInt 8 f.tag), (BitVec.ofInt 8 (((f.data.size / 65536) : Nat) : Int)), (BitVec.ofInt 8 (((f.data.size / 256) : Nat) : Int)), (BitVec.ofInt 8 (f.data.size : Nat))]) ++ (bl f.data))) (H' := [Zan ((l ++ [(BitVec.ofInt 8 f.tag), (BitVec.ofInt 8 (((f.data.size / 65536) : Nat) : Int)), (BitVec.ofInt 8 (((f.data.size / 256) : Nat) : Int)), (BitVec.ofInt 8 (f.data.size : Nat))]) ++ (bl f.data)), bxB 2 (fdC f), Zan [(BitVec.ofInt 8 f.tag), (BitVec.ofInt 8 (((f.data.size / 65536) : Nat) : Int)), (BitVec.ofInt 8 (((f.data.size / 256) : Nat) : Int)), (BitVec.ofInt 8 (f.data.size : Nat))]]) rfl rfl rfl (.inr rfl) rfl rfl (Ztf (by_ := 1) (n' := n + f.data.size + 4) rfl rfl (rfl : Zgv _ 1 (.string _) = some (_, Zcq _)) (Zio _) rfl (by have := hl3; omega) (by omega) (by decide) (by omega)) rfl (by kernel_rfl) ?_
  refine Zc rfl rfl (slv 0 0 (n + f.data.size + 4) (n + f.data.size + 4)) rfl ?_
  refine Zfg (by kernel_rfl) ?_
  refine Zb (Zw (Zy ?_))
  rw [show Zan (l ++ Zgo f) = Zan ((l ++ [(BitVec.ofInt 8 f.tag), (BitVec.ofInt 8 (((f.data.size / 65536) : Nat) : Int)), (BitVec.ofInt 8 (((f.data.size / 256) : Nat) : Int)), (BitVec.ofInt 8 (f.data.size : Nat))]) ++ (bl f.data)) from congrArg Zan (List.append_assoc _ _ _).symm]
  exact Zo (v := slv 0 0 (n + f.data.size + 4) (n + f.data.size + 4)) rfl rfl rfl (by simp [Za1, Zan]) ⟨rfl, rfl, rfl, by first | omega | exact Nat.le_refl _ | exact Nat.zero_le _ | (dsimp only; omega), by first | omega | exact Nat.le_refl _ | exact Nat.zero_le _ | (dsimp only; omega)⟩
end Go.Flat
