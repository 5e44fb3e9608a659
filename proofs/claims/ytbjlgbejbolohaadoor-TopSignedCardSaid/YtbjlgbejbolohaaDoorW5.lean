/- Walks. -/
import Derived.Test.YtbjlgbejbolohaaDoorH2
import Derived.Test.YtbjlgbejbolohaaDoorH10
import Derived.Test.YtbjlgbejbolohaaDoorK1
import Derived.Test.YtbjlgbejbolohaaDoorK10
import Derived.Test.YtbjlgbejbolohaaDoorPlain
set_option linter.unusedVariables false
set_option linter.unusedSimpArgs false
set_option maxRecDepth 20000
namespace Go.Flat
open Go.Proofs
variable {G : Glob}
def Zi8 : ByteArray := ⟨#[0]⟩
def aT : ByteArray := ⟨#[97]⟩
def lfT (kk : Nat → BitVec 32) (s : ByteArray) : D := Zbb kk (Zbn [Zi8, s])
def Zcm : Cod Head := ⟨Zae, 36, fun _ => rfl, by decide⟩
instance : Inhabited Head := ⟨⟨0, 0, 0, dz, 0⟩⟩
theorem Zro (d : D) : Zex ⟨1, 1, 1, d, 0⟩ := by
 show (1 ≤ (1 : Int) ∧ (1 : Int) ≤ 5) ∧ (1 ≤ (1 : Int) ∧ (1 : Int) ≤ 900000000) ∧ (0 ≤ (1 : Int) ∧ (1 : Int) ≤ 100000) ∧ (0 ≤ (0 : Int) ∧ (0 : Int) ≤ 900000000)
 omega
theorem Zte {kk : Nat → BitVec 32} {leaf root : D} : Zh0 kk root leaf 1 0 [] = if Zbm 32 leaf root = true then 0 else 41 := by
 unfold Zh0
 rw [if_neg (by omega), show (1 : Int).toNat = 1 from rfl, show (0 : Int).toNat = 0 from rfl, Zi7 _ _ (by decide)]
 rfl
theorem Zyn {kk : Nat → BitVec 32} {d : D} : Zh0 kk d d 1 0 [] = 0 := by rw [Zte, if_pos (Zgs 32 d)]
theorem Z0m {kk : Nat → BitVec 32} {d e : D} (h : Zbm 32 d e = false) : Zh0 kk d e 1 0 [] = 41 := by
  rw [Zte, if_neg (fun q => by rw [Zwf q] at h; cases h)]
theorem Zwh {a b : Signed} (h : Zfu a b = true) : Z6 a = Z6 b := by
 rw [Zsk, Zvq] at h
 obtain ⟨⟨h1, h2, h3, h4, h5⟩, h6, h7⟩ := h
 rw [Znf] at h4 h7
 unfold Z6 Zt Zae
 rw [h1, h2, h3, h4, h5, h6, h7]
theorem Z0h (kk : Nat → BitVec 32) (hG : G 0 = some (Zaa w32 64 kk)) (master : D) (h : Head) (node : Int) (hr : Zex h) (h1 : 1 ≤ node) (h2 : node ≤ 3) : Zac Tryd.prog G 8 [dgV master, Zbp h, Iv node] [] (.tuple #[Z6 ⟨h, node, Zbi kk master h node⟩, Iv 0]) [] := by
 have q := Z0i (G := G) kk hG master h node
 rw [show Zuu kk master h node = (⟨h, node, Zbi kk master h node⟩, 0) from if_pos ⟨hr, h1, h2⟩] at q
 exact q
theorem Zs9 (kk : Nat → BitVec 32) (hG : G 0 = some (Zaa w32 64 kk)) (master : D) (h : Head) (node : Int) (hr : Zex h) (h1 : 1 ≤ node) (h2 : node ≤ 3) : Zac Tryd.prog G 11 [dgV master, Z6 ⟨h, node, Zbi kk master h node⟩] [] (Iv 0) [] := by
 have q := Zve (G := G) kk hG master ⟨h, node, Zbi kk master h node⟩
 rw [show Zmm kk master ⟨h, node, Zbi kk master h node⟩ = 0 from by unfold Zmm; rw [if_pos (show Zt8 ⟨h, node, Zbi kk master h node⟩ from ⟨hr, h1, h2⟩)]; exact if_pos (Zwe 32 _)] at q
 exact q
theorem Z46 (s : Signed) (hm : Zt8 s) : Zac Tryd.prog G 9 [Z6 s] [] (.tuple #[slv 0 0 (Zaf (Zaq s)).length (Zaf (Zaq s)).length, Iv 0]) [Zan (Zaf (Zaq s))] := by
 have q := Zr5 (G := G) s
 rw [Zzq hm] at q
 exact q
theorem Zvk (s : Signed) : (Zaf (Zaq s)).length ≤ 1000 := by
 have := Zl3 (Zfr 0 (Zaq s)) 0 []
 have h1 := Zcs s.node
 have h2 := Zo0 s.head
 simp only [Zaq, Zfr, Zwv, Za3, Zei, List.length_nil] at this
 show (Zc6 (Zfr 0 (Zaq s)) 0 []).1.length ≤ 1000
 simp only [Zaq, Zfr]
 omega
theorem Z41 (s : Signed) (hm : Zt8 s) (n c : Nat) (hn : (Zaf (Zaq s)).length = n) (hc : n ≤ c) : Zac Tryd.prog G 10 [slv 0 0 n c] [rdB (Zaf (Zaq s))] (.tuple #[Z6 s, Iv 0]) [rdB (Zaf (Zaq s))] := by
 have hl := Zvk s
 have q := Zqg (G := G) (Zaf (Zaq s)) n c hn hc (by omega) (by omega)
 obtain ⟨g1, g2⟩ := Zy8 hm
 rw [g1, Zwh g2] at q
 exact q
theorem Z2w (kk : Nat → BitVec 32) (hG : G 0 = some (Zaa w32 64 kk)) (hG1 : G 2 = some (Zaa u8N 64 dbF)) (ds : List D) (s c : Nat) (y : D) (hd : ds.length = s) (hc : Zak s ≤ c) (hs : s ≤ 99999) :
  Zac Tryd.prog G 6 [mxV ([Iv (s : Nat), slv 0 0 (Zak s) c]), dgV y] [dsR (Zar kk ds s)] (.tuple #[mxV ([Iv ((s : Nat) + 1), slv 1 0 (Zak (s + 1)) (Zak (s + 1))]), Iv 0]) [dsR (Zar kk ds s), dsB (Zar kk (ds ++ [y]) (s + 1))] := by
 subst hd
 have q := Z2v (G := G) kk hG hG1 (Zar kk ds ds.length) ds.length (Zak ds.length) c y (Ze4 kk ds _) hc hs (Zg4 _)
 rw [← Z13 kk ds y, Ze4 kk (ds ++ [y])] at q
 exact q
theorem Z0c (kk : Nat → BitVec 32) (hG : G 0 = some (Zaa w32 64 kk)) (ds : List D) (s c : Nat) (hd : ds.length = s) (hc : Zak s ≤ c) (hs : s ≤ 100000) :
  Zac Tryd.prog G 7 [mxV ([Iv (s : Nat), slv 0 0 (Zak s) c])] [dsR (Zar kk ds s)] (.tuple #[dgV (Zm kk ds), Iv 0]) [dsR (Zar kk ds s)] := by
 subst hd
 have q := Z0b (G := G) kk hG (Zar kk ds ds.length) ds.length (Zak ds.length) c (Ze4 kk ds _) hc hs (Zg4 _)
 rw [Zg4, Z38 kk ds, ← Zg4] at q
 exact q
theorem Zp2 (kk : Nat → BitVec 32) (hG : G 0 = some (Zaa w32 64 kk)) (s : ByteArray) (hs : s.size ≤ 1000000) : Zac Tryd.prog G 5 [.string s] [] (dgV (lfT kk s)) [] := by
  refine Zb8 (fn := Tryd.f5) (nt := 6) rfl rfl rfl rfl ?_
  refine Zah 2 (H' := [hole, hole]) rfl ?_
  refine Ze (Zf ?_)
  refine Zq (b := dgB dz) (nid := 0) (H' := [dgB dz, hole]) rfl rfl (by kernel_rfl) (by kernel_rfl) ?_
  refine Za (Zb (Ze (Zf (Zd rfl rfl (.string s) rfl ?_))))
  refine Zdd (vs := [(0, .string Zi8), (1, .string s)]) (v := slv 1 0 2 2) (blk := txB [Zi8, s]) (nid := 1) (H' := [dgB dz, txB [Zi8, s]]) rfl rfl rfl (by kernel_rfl) (by kernel_rfl) ?_
  refine Zab (e := [some (1, 0)]) (nid := 0) (Zs8 (G := G) kk hG [Zi8, s] 2 (by simp) (by intro x hx; simp at hx; rcases hx with rfl | rfl <;> first | omega | (show 1 ≤ _; omega))) (vals := [slv 1 0 2 2]) (v := dgV (Zbb kk (Zbn [Zi8, s]))) (H' := [dgB dz, txB [Zi8, s]]) rfl rfl rfl rfl rfl rfl rfl ⟨⟨⟨rfl, rfl, rfl, by first | omega | exact Nat.le_refl _, by first | omega | exact Nat.le_refl _⟩, trivial⟩, ⟨(Zhg rfl), trivial⟩, rfl, rfl, rfl⟩ (by kernel_rfl) (by kernel_rfl) ?_
  refine Zj (p := pt 0 0) (v := dgV (Zbb kk (Zbn [Zi8, s]))) (b := 0) (blk := dgB (Zbb kk (Zbn [Zi8, s]))) (H' := [dgB (Zbb kk (Zbn [Zi8, s])), txB [Zi8, s]]) rfl rfl rfl (by kernel_rfl) (by kernel_rfl) ?_
  refine Za (Zb (Zw (Zy ?_)))
  exact Zo (v := dgV (Zbb kk (Zbn [Zi8, s]))) (by kernel_rfl) rfl rfl (by kernel_rfl) (Za7 (Zaz fun _ => rfl) rfl)
theorem Zrf  : Zac Tryd.prog G 16 [] [] (dgV dz) [] := by
 refine Zb8 (fn := Tryd.f16) (nt := 2) rfl rfl rfl rfl ?_
 refine Zah 1 (H' := [hole]) rfl ?_
 refine Ze (Zf ?_)
 refine Zq (b := dgB dz) (nid := 0) (H' := [dgB dz]) rfl rfl (by kernel_rfl) (by kernel_rfl) ?_
 refine Za (Zb (Ze (Zf ?_)))
 refine Zbf (vs := []) (v := dgV dz) rfl rfl rfl (by kernel_rfl) ?_
 refine Zj (p := pt 0 0) (v := dgV dz) (b := 0) (blk := dgB dz) (H' := [dgB dz]) rfl rfl rfl (by kernel_rfl) (by kernel_rfl) ?_
 refine Za (Zb (Zw (Zy ?_)))
 exact Zo (v := dgV dz) (by kernel_rfl) rfl rfl (by kernel_rfl) (Za7 (Zaz fun _ => rfl) rfl)
theorem Zg9 (kk : Nat → BitVec 32) (hG : G 0 = some (Zaa w32 64 kk)) (hne : Zbm 32 (lfT kk aT) (Zbb kk []) = false) : Zac Tryd.prog G 4 [] [] (.bool true) [] := by
  refine Zb8 (fn := Tryd.f4) (nt := 48) rfl rfl rfl rfl ?_
  refine Zah 2 (H' := [hole, hole]) rfl ?_
  refine Ze (Zf (Zc rfl rfl (.bool false) rfl (Za (Zb (Ze (Zf ?_))))))
  refine Zv (Zp2 (G := G) kk hG aT (by decide)) (vals := [.string aT]) (res' := dgV (lfT kk aT)) rfl rfl rfl rfl rfl rfl ?_
  refine Zq (b := dgB dz) (nid := 0) (H' := [dgB dz, hole]) rfl rfl (by kernel_rfl) (by kernel_rfl) ?_
  refine Zj (p := pt 0 0) (v := dgV (lfT kk aT)) (b := 0) (blk := dgB (lfT kk aT)) (H' := [dgB (lfT kk aT), hole]) rfl rfl rfl (by kernel_rfl) (by kernel_rfl) ?_
  refine Za (Zb (Ze ?_))
  refine Zfs (by kernel_rfl) ?_
  refine Zv (Zrf (G := G)) (vals := []) (res' := dgV dz) rfl rfl rfl rfl rfl rfl ?_
  refine Zg (p := pt 0 0) (v := dgV (lfT kk aT)) rfl rfl rfl (by kernel_rfl) ?_
  refine Zbf (vs := [(0, Iv 1), (1, Iv 1), (2, Iv 1), (3, dgV (lfT kk aT))]) (v := Zbp (⟨1, 1, 1, (lfT kk aT), 0⟩ : Head)) rfl rfl rfl (by kernel_rfl) ?_
  refine Zv (Z0h (G := G) kk hG dz (⟨1, 1, 1, (lfT kk aT), 0⟩ : Head) 2 (Zro (lfT kk aT)) (by omega) (by omega)) (vals := [dgV dz, Zbp (⟨1, 1, 1, (lfT kk aT), 0⟩ : Head), Iv 2]) (res' := .tuple #[Z6 (⟨(⟨1, 1, 1, (lfT kk aT), 0⟩ : Head), 2, (Zbi kk dz (⟨1, 1, 1, (lfT kk aT), 0⟩ : Head) 2)⟩ : Signed), Iv 0]) rfl rfl rfl rfl rfl (by kernel_rfl) ?_
  refine Zd rfl rfl (.tuple #[Z6 (⟨(⟨1, 1, 1, (lfT kk aT), 0⟩ : Head), 2, (Zbi kk dz (⟨1, 1, 1, (lfT kk aT), 0⟩ : Head) 2)⟩ : Signed), Iv 0]) rfl (Z5 (vs := #[Z6 (⟨(⟨1, 1, 1, (lfT kk aT), 0⟩ : Head), 2, (Zbi kk dz (⟨1, 1, 1, (lfT kk aT), 0⟩ : Head) 2)⟩ : Signed), Iv 0]) (v := Z6 (⟨(⟨1, 1, 1, (lfT kk aT), 0⟩ : Head), 2, (Zbi kk dz (⟨1, 1, 1, (lfT kk aT), 0⟩ : Head) 2)⟩ : Signed)) rfl rfl rfl rfl (Z5 (vs := #[Z6 (⟨(⟨1, 1, 1, (lfT kk aT), 0⟩ : Head), 2, (Zbi kk dz (⟨1, 1, 1, (lfT kk aT), 0⟩ : Head) 2)⟩ : Signed), Iv 0]) (v := Iv 0) rfl rfl rfl rfl ?_))
  refine Zq (b := bxB 69 (Zt (⟨(⟨0, 0, 0, dz, 0⟩ : Head), 0, dz⟩ : Signed))) (nid := 1) (H' := [dgB (lfT kk aT), bxB 69 (Zt (⟨(⟨0, 0, 0, dz, 0⟩ : Head), 0, dz⟩ : Signed))]) rfl rfl (by kernel_rfl) (by kernel_rfl) ?_
  refine Zj (p := pt 1 0) (v := Z6 (⟨(⟨1, 1, 1, (lfT kk aT), 0⟩ : Head), 2, (Zbi kk dz (⟨1, 1, 1, (lfT kk aT), 0⟩ : Head) 2)⟩ : Signed)) (b := 1) (blk := bxB 69 (Zt (⟨(⟨1, 1, 1, (lfT kk aT), 0⟩ : Head), 2, (Zbi kk dz (⟨1, 1, 1, (lfT kk aT), 0⟩ : Head) 2)⟩ : Signed))) (H' := [dgB (lfT kk aT), bxB 69 (Zt (⟨(⟨1, 1, 1, (lfT kk aT), 0⟩ : Head), 2, (Zbi kk dz (⟨1, 1, 1, (lfT kk aT), 0⟩ : Head) 2)⟩ : Signed))]) rfl rfl rfl (by kernel_rfl) (by kernel_rfl) ?_
  refine Zc rfl rfl (Iv 0) rfl ?_
  refine Zfg (Zgb [[], [], [1], [0, 1, 2], [0, 1, 2, 3], [0, 1, 2, 3, 4], [0, 1, 2, 3, 4], [], [0, 1, 2, 3, 4, 5, 7], [0, 1, 2, 3, 4, 5, 6, 7, 8]] (by kernel_rfl) (by kernel_rfl)) ?_
  refine Zb (Ze ?_)
  refine Zfs (by kernel_rfl) ?_
  refine Zd rfl rfl (Iv 0) rfl ?_
  refine Zi (vx := Iv 0) (vy := Iv 0) rfl rfl (.bool true) rfl rfl (Zd2 (by omega)) ?_
  refine Zd rfl rfl (.bool true) rfl ?_
  refine Zh (b := 1) (o := 0) (n := 36) (o' := 36) rfl rfl rfl rfl rfl ?_
  refine Zg (p := pt 1 36) (v := Iv 2) rfl rfl rfl (by kernel_rfl) ?_
  refine Zi (vx := Iv 2) (vy := Iv 2) rfl rfl (.bool true) rfl rfl (Zd2 (by omega)) ?_
  refine Zp rfl rfl (.bool true) rfl (Zd rfl rfl (.bool true) rfl ?_)
  refine Zh (b := 1) (o := 0) (n := 0) (o' := 0) rfl rfl rfl rfl rfl ?_
  refine Zh (b := 1) (o := 0) (n := 3) (o' := 3) rfl rfl rfl rfl rfl ?_
  refine Zg (p := pt 1 3) (v := dgV (lfT kk aT)) rfl rfl rfl (by kernel_rfl) ?_
  refine Zg (p := pt 0 0) (v := dgV (lfT kk aT)) rfl rfl rfl (by kernel_rfl) ?_
  refine Zi (vx := dgV (lfT kk aT)) (vy := dgV (lfT kk aT)) rfl rfl (.bool true) rfl rfl (Eq.trans (Z6l (n := 32) (a := (lfT kk aT)) (b := (lfT kk aT)) (by kernel_rfl) rfl rfl rfl) (by rw [(Zgs _ _)] <;> rfl)) ?_
  refine Zp rfl rfl (.bool true) rfl (Zd rfl rfl (.bool true) rfl ?_)
  refine Zv (Zrf (G := G)) (vals := []) (res' := dgV dz) rfl rfl rfl rfl rfl rfl ?_
  refine Zg (p := pt 1 0) (v := Z6 (⟨(⟨1, 1, 1, (lfT kk aT), 0⟩ : Head), 2, (Zbi kk dz (⟨1, 1, 1, (lfT kk aT), 0⟩ : Head) 2)⟩ : Signed)) rfl rfl rfl (by kernel_rfl) ?_
  refine Zv (Zs9 (G := G) kk hG dz (⟨1, 1, 1, (lfT kk aT), 0⟩ : Head) 2 (Zro (lfT kk aT)) (by omega) (by omega)) (vals := [dgV dz, Z6 (⟨(⟨1, 1, 1, (lfT kk aT), 0⟩ : Head), 2, (Zbi kk dz (⟨1, 1, 1, (lfT kk aT), 0⟩ : Head) 2)⟩ : Signed)]) (res' := Iv 0) rfl rfl rfl rfl rfl rfl ?_
  refine Zi (vx := Iv 0) (vy := Iv 0) rfl rfl (.bool true) rfl rfl (Zd2 (by omega)) ?_
  refine Zp rfl rfl (.bool true) rfl (Zd rfl rfl (.bool true) rfl ?_)
  refine Zh (b := 1) (o := 0) (n := 0) (o' := 0) rfl rfl rfl rfl rfl ?_
  refine Zh (b := 1) (o := 0) (n := 3) (o' := 3) rfl rfl rfl rfl rfl ?_
  refine Zg (p := pt 1 3) (v := dgV (lfT kk aT)) rfl rfl rfl (by kernel_rfl) ?_
  refine Zg (p := pt 0 0) (v := dgV (lfT kk aT)) rfl rfl rfl (by kernel_rfl) ?_
  refine Zab (e := [none]) (nid := 0) ((Zj3 (G := G) kk hG (lfT kk aT) (lfT kk aT) 1 0 [] 0 0 rfl (by omega) (by omega) (by omega) (by omega) (by omega) (by omega)).res (congrArg (Value.int .i64) (show Zh0 kk (lfT kk aT) (lfT kk aT) 1 0 [] = 0 from Zyn))) (vals := [dgV (lfT kk aT), Iv 1, Iv 0, dgV (lfT kk aT), .slice none 0 0]) (v := Iv 0) (H' := [dgB (lfT kk aT), bxB 69 (Zt (⟨(⟨1, 1, 1, (lfT kk aT), 0⟩ : Head), 2, (Zbi kk dz (⟨1, 1, 1, (lfT kk aT), 0⟩ : Head) 2)⟩ : Signed))]) rfl rfl rfl rfl rfl rfl rfl ⟨⟨rfl, rfl, rfl, rfl, ⟨rfl, rfl, rfl, rfl⟩, trivial⟩, ⟨⟨rfl, rfl, by first | exact Nat.succ_pos _ | (show 0 < _; decide)⟩, trivial⟩, rfl, rfl, rfl⟩ rfl (by kernel_rfl) ?_
  refine Zi (vx := Iv 0) (vy := Iv 0) rfl rfl (.bool true) rfl rfl (Zd2 (by omega)) ?_
  refine Zp rfl rfl (.bool true) rfl (Zd rfl rfl (.bool true) rfl ?_)
  refine Zh (b := 1) (o := 0) (n := 0) (o' := 0) rfl rfl rfl rfl rfl ?_
  refine Zh (b := 1) (o := 0) (n := 3) (o' := 3) rfl rfl rfl rfl rfl ?_
  refine Zg (p := pt 1 3) (v := dgV (lfT kk aT)) rfl rfl rfl (by kernel_rfl) ?_
  refine Zv (Zlm (G := G) kk hG) (vals := []) (res' := dgV (Zbb kk [])) rfl rfl rfl rfl rfl rfl ?_
  refine Zab (e := [none]) (nid := 0) ((Zj3 (G := G) kk hG (lfT kk aT) (Zbb kk []) 1 0 [] 0 0 rfl (by omega) (by omega) (by omega) (by omega) (by omega) (by omega)).res (congrArg (Value.int .i64) (show Zh0 kk (lfT kk aT) (Zbb kk []) 1 0 [] = 41 from Z0m hne))) (vals := [dgV (lfT kk aT), Iv 1, Iv 0, dgV (Zbb kk []), .slice none 0 0]) (v := Iv 41) (H' := [dgB (lfT kk aT), bxB 69 (Zt (⟨(⟨1, 1, 1, (lfT kk aT), 0⟩ : Head), 2, (Zbi kk dz (⟨1, 1, 1, (lfT kk aT), 0⟩ : Head) 2)⟩ : Signed))]) rfl rfl rfl rfl rfl rfl rfl ⟨⟨rfl, rfl, rfl, rfl, ⟨rfl, rfl, rfl, rfl⟩, trivial⟩, ⟨⟨rfl, rfl, by first | exact Nat.succ_pos _ | (show 0 < _; decide)⟩, trivial⟩, rfl, rfl, rfl⟩ rfl (by kernel_rfl) ?_
  refine Zi (vx := Iv 41) (vy := Iv 41) rfl rfl (.bool true) rfl rfl (Zd2 (by omega)) ?_
  refine Zp rfl rfl (.bool true) rfl (Zc rfl rfl (.bool true) rfl ?_)
  refine Zfg (Zgb [[], [0], [0, 1], [0, 1, 2], [0, 1, 2, 3], [0, 1, 2, 3, 4], [0, 1, 2, 3, 4, 5], [0, 1, 2, 3, 4, 5, 6], [0, 1, 2, 3, 4, 5, 6, 7], [0, 1, 2, 3, 4, 5, 6, 7, 8], [0, 1, 2, 3, 4, 5, 6, 7, 8, 9], [0, 1, 2, 3, 4, 5, 6, 7], [0, 1, 2, 3, 4, 5, 6, 7, 8, 9, 10, 11], [0, 1, 2, 3, 4, 5, 6, 7, 8, 9, 10, 11, 12], [0, 1, 2, 3, 4, 5, 6, 7, 8, 9, 10, 11, 12, 13], [0, 1, 2, 3, 4, 5, 6, 7, 8, 9, 10, 11, 12, 13, 14], [0, 1, 2, 3, 4, 5, 6, 7, 8, 9, 10, 11, 12, 13, 14], [0, 1, 2, 3, 4, 5, 6, 7, 8, 9, 10, 11, 12, 13, 14, 15, 16], [0, 1, 2, 3, 4, 5, 6, 7, 8, 9, 10, 11, 12, 13, 14, 15, 16, 17], [0, 1, 2, 3, 4, 5, 6, 7, 8, 9, 10, 11, 12, 13, 14, 15, 16, 17, 18], [0, 1, 2, 3, 4, 5, 6, 7, 8, 9, 10, 11, 12, 13, 14, 15, 16, 17, 18, 19], [0, 1, 2, 3, 4, 5, 6, 7, 8, 9, 10, 11, 12, 13, 14, 15, 16, 17, 18, 19, 20], [0, 1, 2, 3, 4, 5, 6, 7, 8, 9, 10, 11, 12, 13, 14, 15, 16, 17, 18, 19, 20, 21], [0, 1, 2, 3, 4, 5, 6, 7, 8, 9, 10, 11, 12, 13, 14, 15, 16, 17, 18, 19, 20, 21, 22], [0, 1, 2, 3, 4, 5, 6, 7, 8, 9, 10, 11, 12, 13, 14, 15, 16, 17, 18, 19, 20], [0, 1, 2, 3, 4, 5, 6, 7, 8, 9, 10, 11, 12, 13, 14, 15, 16, 17, 18, 19, 20, 21, 22, 23, 24], [0, 1, 2, 3, 4, 5, 6, 7, 8, 9, 10, 11, 12, 13, 14, 15, 16, 17, 18, 19, 20, 21, 22, 23, 24, 25], [0, 1, 2, 3, 4, 5, 6, 7, 8, 9, 10, 11, 12, 13, 14, 15, 16, 17, 18, 19, 20, 21, 22, 23, 24, 25, 26], [0, 1, 2, 3, 4, 5, 6, 7, 8, 9, 10, 11, 12, 13, 14, 15, 16, 17, 18, 19, 20, 21, 22, 23, 24, 25, 26, 27], [0, 1, 2, 3, 4, 5, 6, 7, 8, 9, 10, 11, 12, 13, 14, 15, 16, 17, 18, 19, 20, 21, 22, 23, 24, 25, 26, 27, 28], [0, 1, 2, 3, 4, 5, 6, 7, 8, 9, 10, 11, 12, 13, 14, 15, 16, 17, 18, 19, 20, 21, 22, 23, 24, 25, 26, 27, 28, 29], [0, 1, 2, 3, 4, 5, 6, 7, 8, 9, 10, 11, 12, 13, 14, 15, 16, 17, 18, 19, 20, 21, 22, 23, 24, 25, 26, 27, 28, 29, 30], [0, 1, 2, 3, 4, 5, 6, 7, 8, 9, 10, 11, 12, 13, 14, 15, 16, 17, 18, 19, 20, 21, 22, 23, 24, 25, 26, 27, 28], [0, 1, 2, 3, 4, 5, 6, 7, 8, 9, 10, 11, 12, 13, 14, 15, 16, 17, 18, 19, 20, 21, 22, 23, 24, 25, 26, 27, 28, 29, 30, 31, 32], [0, 1, 2, 3, 4, 5, 6, 7, 8, 9, 10, 11, 12, 13, 14, 15, 16, 17, 18, 19, 20, 21, 22, 23, 24, 25, 26, 27, 28, 29, 30, 31, 32, 33], [0, 1, 2, 3, 4, 5, 6, 7, 8, 9, 10, 11, 12, 13, 14, 15, 16, 17, 18, 19, 20, 21, 22, 23, 24, 25, 26, 27, 28, 29, 30, 31, 32, 33, 34], [0, 1, 2, 3, 4, 5, 6, 7, 8, 9, 10, 11, 12, 13, 14, 15, 16, 17, 18, 19, 20, 21, 22, 23, 24, 25, 26, 27, 28, 29, 30, 31, 32, 33, 34, 35]] (by kernel_rfl) (by kernel_rfl)) ?_
  refine Zb (Zw (Zy ?_))
  exact Zo (v := .bool true) rfl rfl rfl (by kernel_rfl) rfl
end Go.Flat
namespace Go.Proofs.YtbjlgbejbolohaaDoor
open Go.Flat
theorem Z1j : ∀ i, i < 64 → (kk i).toNat = Z4c.getD i 0 := by
 have h : ((List.range 64).all fun i => (kk i).toNat == Z4c.getD i 0) = true := by kernel_rfl
 intro i hi
 exact beq_iff_eq.1 (List.all_eq_true.1 h i (List.mem_range.2 hi))
theorem sum1 : dgL (Zbb kk (Zbn [Zi8, aT])) = ([2, 42, 105, 121, 230, 218, 183, 170, 90, 228, 195, 229, 228, 95, 126, 151, 113, 18, 167, 230, 53, 147, 130, 13, 190, 193, 236, 115, 138, 36, 249, 60] : List Nat).map (BitVec.ofNat 8) :=
 Zxt kk Z4c rfl Z1j _ (ms := [0, 97, 128, 0, 0, 0, 0, 0, 0, 0, 0, 0, 0, 0, 0, 0, 0, 0, 0, 0, 0, 0, 0, 0, 0, 0, 0, 0, 0, 0, 0, 0, 0, 0, 0, 0, 0, 0, 0, 0, 0, 0, 0, 0, 0, 0, 0, 0, 0, 0, 0, 0, 0, 0, 0, 0, 0, 0, 0, 0, 0, 0, 0, 16]) (out := [2, 42, 105, 121, 230, 218, 183, 170, 90, 228, 195, 229, 228, 95, 126, 151, 113, 18, 167, 230, 53, 147, 130, 13, 190, 193, 236, 115, 138, 36, 249, 60]) (n := 1) (by kernel_rfl) (by kernel_rfl) (by kernel_rfl)
theorem sum2 : dgL (Zbb kk ([] : Bs)) = ([227, 176, 196, 66, 152, 252, 28, 20, 154, 251, 244, 200, 153, 111, 185, 36, 39, 174, 65, 228, 100, 155, 147, 76, 164, 149, 153, 27, 120, 82, 184, 85] : List Nat).map (BitVec.ofNat 8) :=
 Zxt kk Z4c rfl Z1j _ (ms := [128, 0, 0, 0, 0, 0, 0, 0, 0, 0, 0, 0, 0, 0, 0, 0, 0, 0, 0, 0, 0, 0, 0, 0, 0, 0, 0, 0, 0, 0, 0, 0, 0, 0, 0, 0, 0, 0, 0, 0, 0, 0, 0, 0, 0, 0, 0, 0, 0, 0, 0, 0, 0, 0, 0, 0, 0, 0, 0, 0, 0, 0, 0, 0]) (out := [227, 176, 196, 66, 152, 252, 28, 20, 154, 251, 244, 200, 153, 111, 185, 36, 39, 174, 65, 228, 100, 155, 147, 76, 164, 149, 153, 27, 120, 82, 184, 85]) (n := 1) (by kernel_rfl) (by kernel_rfl) (by kernel_rfl)
theorem hne : Zbm 32 (lfT kk aT) (Zbb kk []) = false := by
 cases h : Zbm 32 (lfT kk aT) (Zbb kk []) with
 | false => rfl
 | true =>
  have h1 := Znf.1 h
  unfold lfT at h1
  rw [Zxs, Zxs, sum1, sum2] at h1
  exact absurd (congrArg (fun l : List Value => match l with | Value.int _ z :: _ => z | _ => 0) h1) (by decide)
end Go.Proofs.YtbjlgbejbolohaaDoor
namespace Go.Flat
open Go.Proofs
variable {G : Glob}
section
variable (kk : Nat → BitVec 32)
theorem Zws {n m : Nat} (h2 : 2 ≤ n) (h1 : Zz n < m) (hm : m ≤ n) : Zz m = Zz n := by
 obtain ⟨p1, p2⟩ := Zb1 h2
 have e := Zi3 h2
 rw [Zi3 (n := m) (by omega), e]
 congr 1
 have g1 := Nat.log2_self_le (n := n - 1) (by omega)
 have g3 := Nat.lt_log2_self (n := n - 1)
 rw [← e] at g1
 have := (Nat.log2_lt (n := m - 1) (k := (n - 1).log2 + 1) (by omega)).2 (by omega)
 have := (Nat.le_log2 (n := m - 1) (k := (n - 1).log2) (by omega)).2 (by omega)
 omega
theorem Zl1 {α : Type} (l : List α) (x d : α) : (l ++ [x]).take ((l ++ [x]).length - 1) = l ∧ (l ++ [x]).getD ((l ++ [x]).length - 1) d = x ∧ 0 < (l ++ [x]).length := by
 refine ⟨by simp, ?_, by simp⟩
 rw [List.getD_eq_getElem?_getD]; simp
theorem Zvw {l : List D} {i k : Nat} (h : i < k) : (l.take k).getD i d0 = l.getD i d0 := by
 rw [List.getD_eq_getElem?_getD, List.getD_eq_getElem?_getD, List.getElem?_take, if_pos h]
theorem Zvv {l : List D} {i k : Nat} (h : k ≤ i) : (l.drop k).getD (i - k) d0 = l.getD i d0 := by
 rw [List.getD_eq_getElem?_getD, List.getD_eq_getElem?_getD, List.getElem?_drop]; congr 2; omega
theorem Zy3 : ∀ (n : Nat) (l : List D) (i : Nat), l.length = n → i < n → ∃ w, Zij n i (Zcf kk l i) = some w ∧ (knA kk (l.getD i d0) w).getD 0 d0 = Zm kk l := by
 intro n
 induction n using Nat.strongRecOn with
 | ind n ih =>
  intro l i hl hi
  by_cases h2 : 2 ≤ n
  ·obtain ⟨p1, p2⟩ := Zb1 h2
   rw [Znb kk (by omega), hl]
   by_cases hk : i < Zz n
   ·rw [Zt1 kk (by omega) (by rw [hl]; exact hk), hl]
    obtain ⟨q1, q2, q3⟩ := Zl1 (Zcf kk (l.take (Zz n)) i) (Zm kk (l.drop (Zz n))) d0
    obtain ⟨w, w1, w2⟩ := ih (Zz n) p2 (l.take (Zz n)) i (by rw [List.length_take]; omega) hk
    rw [Zom h2 q3 hk, q1, q2, w1]
    refine ⟨_, rfl, ?_⟩
    rw [Zvw hk] at w2
    simp only [knA, w2]
    rfl
   ·rw [Zt0 kk (by omega) (by rw [hl]; omega), hl]
    obtain ⟨q1, q2, q3⟩ := Zl1 (Zcf kk (l.drop (Zz n)) (i - Zz n)) (Zm kk (l.take (Zz n))) d0
    obtain ⟨w, w1, w2⟩ := ih (n - Zz n) (by omega) (l.drop (Zz n)) (i - Zz n) (by rw [List.length_drop]; omega) (by omega)
    rw [Zol h2 q3 (by omega), q1, q2, w1]
    refine ⟨_, rfl, ?_⟩
    rw [Zvv (by omega)] at w2
    simp only [knA, w2]
    rfl
  ·obtain rfl : n = 1 := by omega
   obtain rfl : i = 0 := by omega
   rw [Zmz kk 0 (by omega), Zi7 _ _ (by decide)]
   refine ⟨[], rfl, ?_⟩
   match l, hl with
   | [x], _ => rfl
theorem Zvt {l : List D} {n i : Nat} (hl : l.length = n) (hi : i < n) (hn : n ≤ 100000) : Zh0 kk (Zm kk l) (l.getD i d0) (n : Nat) (i : Nat) (Zcf kk l i) = 0 := by
 obtain ⟨w, w1, w2⟩ := Zy3 kk n l i hl hi
 unfold Zh0
 rw [if_neg (by omega), show (n : Int).toNat = n from rfl, show (i : Int).toNat = i from rfl, w1]
 dsimp only
 rw [w2, Zgs]
 rfl
theorem Zvr : ∀ (n : Nat) (l : List D) (m : Nat) (kn : Bool) (old : D), l.length = n → 1 ≤ m → m ≤ n → (kn = true → old = Zm kk (l.take m)) → Zfm kk old m n kn (Zjw kk l m kn) = some (Zm kk (l.take m), Zm kk l) := by
  intro n
  induction n using Nat.strongRecOn with
  | ind n ih =>
    intro l m kn old hl h1 hm ho
    rcases Nat.lt_or_ge m n with hlt | hge
    · obtain ⟨p1, p2⟩ := Zb1 (n := n) (by omega)
      rw [Znb kk (ds := l) (by omega), hl]
      by_cases hk : m ≤ Zz n
      · rw [Z01 kk kn h1 (by omega) (by rw [hl]; exact hk), hl]
        obtain ⟨q1, q2, q3⟩ := Zl1 (Zjw kk (l.take (Zz n)) m kn) (Zm kk (l.drop (Zz n))) d0
        rw [Zoz kk old kn hlt h1 (by omega) hk, q1, q2]
        have ht : (l.take (Zz n)).take m = l.take m := by rw [List.take_take, Nat.min_eq_left hk]
        rw [ih (Zz n) p2 (l.take (Zz n)) m kn old (by rw [List.length_take]; omega) h1 hk (by rw [ht]; exact ho), ht]
        rfl
      · rw [Z00 kk kn (by omega) (by rw [hl]; omega), hl]
        obtain ⟨q1, q2, q3⟩ := Zl1 (Zjw kk (l.drop (Zz n)) (m - Zz n) false) (Zm kk (l.take (Zz n))) d0
        rw [Zoy kk old kn hlt h1 (by omega) (by omega), q1, q2]
        rw [ih (n - Zz n) (by omega) (l.drop (Zz n)) (m - Zz n) false old (by rw [List.length_drop]; omega) (by omega) (by omega) (fun h => by cases h)]
        have hlm : (l.take m).length = m := by rw [List.length_take]; omega
        rw [Znb kk (ds := l.take m) (by omega), hlm, Zws (by omega) (by omega) hm, List.take_take, Nat.min_eq_left (by omega), List.drop_take]
        rfl
    · obtain rfl : m = n := by omega
      rw [Zyx kk kn (by omega)]
      have ht : l.take m = l := by rw [← hl, List.take_length]
      rw [ht] at ho ⊢
      cases kn with
      | true => rw [if_pos rfl, Zk8, ho rfl]; rfl
      | false => rw [if_neg (by decide), Zmr kk old m (by simp)]; rfl
theorem Z3a (l : List D) (m : Nat) : Zda kk l m = Zjw kk l m true := rfl
theorem Zvs {l : List D} {n m : Nat} (hl : l.length = n) (h1 : 1 ≤ m) (hm : m ≤ n) (hn : n ≤ 100000) : Zfo kk (m : Nat) (Zm kk (l.take m)) (n : Nat) (Zm kk l) (Zda kk l m) = 0 := by
 unfold Zfo
 rw [if_neg (by omega), if_neg (by omega), show (n : Int).toNat = n from rfl, show (m : Int).toNat = m from rfl, Z3a, Zvr kk n l m true _ hl h1 hm (fun _ => rfl)]
 dsimp only
 rw [Zgs, Zgs]
 rfl
theorem Ztw {l l' : List D} {n m : Nat} {a : D} (hl : l.length = n) (h1 : 1 ≤ m) (hm : m ≤ n) (hn : n ≤ 100000) (he : l.take m = l') (ha : Zm kk l' = a) : Zfo kk (m : Nat) a (n : Nat) (Zm kk l) (Zda kk l m) = 0 := by
 subst he; subst ha; exact Zvs kk hl h1 hm hn

end
section
variable (kk : Nat → BitVec 32)
def lvs (ts : List ByteArray) : Nat → List D
  | 0 => []
  | k + 1 => lvs ts k ++ [lfT kk (ts.getD k ⟨#[]⟩)]
theorem Zel (ts : List ByteArray) : ∀ k, (lvs kk ts k).length = k
 | 0 => rfl
 | k + 1 => by rw [lvs, List.length_append, Zel ts k]; rfl
theorem Zt6 (ts : List ByteArray) (k : Nat) : ∀ n, k ≤ n → (lvs kk ts n).take k = lvs kk ts k
  | 0, h => by obtain rfl : k = 0 := by omega
               rfl
  | n + 1, h => by
    rcases Nat.lt_or_ge n k with q | q
    · obtain rfl : k = n + 1 := by omega
      exact List.take_of_length_le (by rw [Zel]; exact Nat.le_refl _)
    · rw [lvs, List.take_append_of_le_length (by rw [Zel]; exact q), Zt6 ts k n q]
def hds (ts : List ByteArray) (epoch : Int) : Nat → List Head
  | 0 => []
  | k + 1 => hds ts epoch k ++ [⟨1, epoch, (k : Int) + 1, Zm kk (lvs kk ts (k + 1)), (k : Int)⟩]
theorem Zgk (ts : List ByteArray) (epoch : Int) : ∀ k, (hds kk ts epoch k).length = k
 | 0 => rfl
 | k + 1 => by rw [hds, List.length_append, Zgk ts epoch k]; rfl
theorem Zsp (ts : List ByteArray) (epoch : Int) {i : Nat} : ∀ {n : Nat}, i < n → (hds kk ts epoch n).getD i default = ⟨1, epoch, (i : Int) + 1, Zm kk (lvs kk ts (i + 1)), (i : Int)⟩
 | 0, h => absurd h (by omega)
 | n + 1, h => by
  rw [hds, List.getD_eq_getElem?_getD]
  rcases Nat.lt_or_ge i n with q | q
  ·rw [List.getElem?_append_left (by rw [Zgk]; exact q), ← List.getD_eq_getElem?_getD]
   exact Zsp ts epoch q
  ·obtain rfl : i = n := by omega
   rw [List.getElem?_append_right (by rw [Zgk]; exact Nat.le_refl _), Zgk, Nat.sub_self]; rfl
theorem Zty (ts : List ByteArray) (epoch : Int) {n : Nat} (h : 0 < n) : ((hds kk ts epoch n).getD (n - 1) default).root = Zm kk (lvs kk ts n) := by
 rw [Zsp kk ts epoch (by omega)]
 show Zm kk (lvs kk ts (n - 1 + 1)) = _
 rw [show n - 1 + 1 = n by omega]
theorem Z3o (ts : List ByteArray) (epoch : Int) {n i : Nat} (h : i < n) (hb : n ≤ 100000) : Zh0 kk ((hds kk ts epoch n).getD (n - 1) default).root ((lvs kk ts n).getD i d0) (n : Nat) (i : Nat) (Zcf kk (lvs kk ts n) i) = 0 := by
 rw [Zty kk ts epoch (by omega)]
 exact Zvt kk (Zel kk ts n) h hb
theorem Z3n (ts : List ByteArray) (epoch : Int) {n i : Nat} (h : i < n) (hb : n ≤ 100000) : Zfo kk ((hds kk ts epoch n).getD i default).size ((hds kk ts epoch n).getD i default).root (n : Nat) ((hds kk ts epoch n).getD (n - 1) default).root (Zda kk (lvs kk ts n) (i + 1)) = 0 := by
 rw [Zty kk ts epoch (by omega), Zsp kk ts epoch h]
 exact Ztw kk (m := i + 1) (Zel kk ts n) (by omega) (by omega) hb (Zt6 kk ts (i + 1) n (by omega)) rfl
end
theorem Zvy (kk : Nat → BitVec 32) (l : List D) (i : Nat) {n : Nat} (hl : l.length = n) (hb : n ≤ 100000) (hi : i < n) : (Zcf kk l i).length ≤ 1000 := by
 have := Zj9 kk 17 l i (by omega)
 omega
theorem Zvn (kk : Nat → BitVec 32) (l : List D) (m : Nat) {n : Nat} (hl : l.length = n) (hb : n ≤ 100000) (h1 : 1 ≤ m) (hm : m ≤ n) : (Zda kk l m).length ≤ 1000 := by
 have := Ztn kk 17 l m h1 (by omega)
 omega
theorem Zmc {epoch size tick : Int} {d : D} (h1 : 1 ≤ epoch) (h2 : epoch ≤ 900000000) (h3 : 0 ≤ size) (h4 : size ≤ 100000) (h5 : 0 ≤ tick) (h6 : tick ≤ 900000000) : Zex ⟨1, epoch, size, d, tick⟩ :=
 ⟨⟨by show (1 : Int) ≤ 1; omega, by show (1 : Int) ≤ 5; omega⟩, ⟨h1, h2⟩, ⟨h3, h4⟩, ⟨h5, h6⟩⟩
theorem Z39 (l : List ByteArray) : rwR Zys l = Za8 l := by
 have : Zys.row l = l.map Value.string := by
  induction l with
  | nil => rfl
  | cons x l ih => show Value.string x :: Zys.row l = _; rw [ih]; rfl
 unfold rwR Za8
 rw [this]; rfl
end Go.Flat
