/- Walks. -/
import Derived.Test.YtoheeojjdpdljaaDoorC1
import Derived.Test.YtoheeojjdpdljaaDoorH23
import Derived.Test.YtoheeojjdpdljaaDoorH9
set_option linter.unusedVariables false
set_option linter.unusedSimpArgs false
set_option maxRecDepth 20000
namespace Go.Flat
open Go.Proofs
variable {G : Glob}
def Zfb (c : Claim) : List ByteArray := [(Zp c.region).1, (Zp c.epoch).1, (Zp c.node).1, (Zp c.size).1, Zl (dgL c.root)]
theorem Zkp (c : Claim) : ∀ x, x ∈ Zfb c → x.size ≤ 65536 := by
 intro x hx
 have h1 := Za6 c.region
 have h2 := Za6 c.epoch
 have h3 := Za6 c.node
 have h4 := Za6 c.size
 simp only [Zfb, List.mem_cons, List.not_mem_nil, or_false] at hx
 rcases hx with rfl | rfl | rfl | rfl | rfl
 all_goals first | omega | (rw [Zbc, Ze2]; omega)
theorem Zwd {c : Claim} (h : Za8 c) : (Z8 c).2 = 0 := by rw [show Z8 c = _ from if_pos h]
theorem Z4a {c : Claim} (h : (Z8 c).2 = 0) : Za8 c := by
 refine Decidable.byContradiction fun q => ?_
 rw [show Z8 c = ([], 60) from if_neg q] at h; exact absurd h (by decide)
theorem Z4r (d : D) : dgL (cpM dz (Zl (dgL d))) = dgL d := by
 have h : Zdd 32 (cpM dz (Zl (dgL d))) d = true := Zoc d
 simp only [Zdd, List.all_eq_true, List.mem_range, beq_iff_eq] at h
 unfold dgL
 exact List.map_congr_left fun i hi => h i (List.mem_range.1 hi)
theorem Zu1 {c : Claim} (hr : Za8 c) : (Z9 (Z8 c).1).2 = 0 ∧ Zdl (Z9 (Z8 c).1).1 c = true := by
 have hr' := hr
 unfold Za8 at hr'
 have hb : (Z8 c).1 = Zaj (Zfb c) := by rw [show Z8 c = _ from if_pos hr]; rfl
 have hrd : Zh (Z8 c).1 = (Zgr c, 0) := by rw [hb]; exact Zkc (Zfb c) (by simp [Zfb]) (Zkp c)
 have v1 := Zca (n := c.region) (by omega) (by omega)
 have v2 := Zca (n := c.epoch) (by omega) (by omega)
 have v3 := Zca (n := c.node) (by omega) (by omega)
 have v4 := Zca (n := c.size) (by omega) (by omega)
 have hx : Zfi (Zgr c) ⟨0, 0, 0, 0, dz⟩ = ⟨c.region, c.epoch, c.node, c.size, cpM dz (Zl (dgL c.root))⟩ := by
  simp [Zgr, Zfi, Zf5, v1, v2, v3, v4]
 have hq : Za8 ⟨c.region, c.epoch, c.node, c.size, cpM dz (Zl (dgL c.root))⟩ := hr
 have hpb : (Z8 ⟨c.region, c.epoch, c.node, c.size, cpM dz (Zl (dgL c.root))⟩).1 = (Z8 c).1 := by
  rw [hb, show Z8 ⟨c.region, c.epoch, c.node, c.size, cpM dz (Zl (dgL c.root))⟩ = _ from if_pos hq]
  show Zaj (Zfb ⟨c.region, c.epoch, c.node, c.size, cpM dz (Zl (dgL c.root))⟩) = Zaj (Zfb c)
  unfold Zfb
  rw [Z4r]
 have e : Z9 (Z8 c).1 = (⟨c.region, c.epoch, c.node, c.size, cpM dz (Zl (dgL c.root))⟩, 0) := by
  unfold Z9
  rw [hrd, hx]
  exact if_pos ⟨rfl, Zwd hq, by rw [hpb]; exact (Za9 _ _).2 rfl⟩
 rw [e]
 refine ⟨rfl, ?_⟩
 have h : Zdd 32 (cpM dz (Zl (dgL c.root))) c.root = true := Zoc c.root
 simp [Zdl, h]
theorem Zsz : Za8 ⟨1, 2, 3, 0, dz⟩ := by
 show (1 ≤ (1 : Int) ∧ (1 : Int) ≤ 5) ∧ (1 ≤ (2 : Int) ∧ (2 : Int) ≤ 900000000) ∧ (1 ≤ (3 : Int) ∧ (3 : Int) ≤ 3) ∧ (0 ≤ (0 : Int) ∧ (0 : Int) ≤ 100000)
 omega
theorem Zyd  : Zao Tryd.prog G 26 [] [] (.bool true) [] := by
  refine Zbv (fn := Tryd.f26) (nt := 38) rfl rfl rfl rfl ?_
  refine Zat 3 (H' := [hole, hole, hole]) rfl ?_
  refine Zg (Zi (Zb rfl rfl (.bool false) rfl (Za (Zc (Zg (Zi ?_))))))
  refine Zaw (vs := [(0, Iv 1), (1, Iv 2), (2, Iv 3)]) (v := Zz (⟨1, 2, 3, 0, dz⟩ : Claim)) rfl rfl rfl (by kernel_rfl) ?_
  refine Zae (b := bxB 36 (Zw (⟨0, 0, 0, 0, dz⟩ : Claim))) (nid := 0) (H' := [bxB 36 (Zw (⟨0, 0, 0, 0, dz⟩ : Claim)), hole, hole]) rfl rfl (by kernel_rfl) (by kernel_rfl) ?_
  refine Zr (p := pt 0 0) (v := Zz (⟨1, 2, 3, 0, dz⟩ : Claim)) (b := 0) (blk := bxB 36 (Zw (⟨1, 2, 3, 0, dz⟩ : Claim))) (H' := [bxB 36 (Zw (⟨1, 2, 3, 0, dz⟩ : Claim)), hole, hole]) rfl rfl rfl (by kernel_rfl) (by kernel_rfl) ?_
  refine Za (Zc (Zg (Zi ?_)))
  refine Zo (p := pt 0 0) (v := Zz (⟨1, 2, 3, 0, dz⟩ : Claim)) rfl rfl rfl (by kernel_rfl) ?_
  have hpl6 := Zi3 (⟨1, 2, 3, 0, dz⟩ : Claim)
  have hpz6 := Zwd (c := (⟨1, 2, 3, 0, dz⟩ : Claim)) Zsz
  refine Zad (e := []) (nid := 1) (Zh9 (G := G) (⟨1, 2, 3, 0, dz⟩ : Claim)) (vals := [Zz (⟨1, 2, 3, 0, dz⟩ : Claim)]) (v := .tuple #[slv 1 0 ((Z8 (⟨1, 2, 3, 0, dz⟩ : Claim)).1.length) ((Z8 (⟨1, 2, 3, 0, dz⟩ : Claim)).1.length), Iv ((Z8 (⟨1, 2, 3, 0, dz⟩ : Claim)).2)]) (H' := [bxB 36 (Zw (⟨1, 2, 3, 0, dz⟩ : Claim)), Zy ((Z8 (⟨1, 2, 3, 0, dz⟩ : Claim)).1), hole]) rfl rfl rfl rfl rfl rfl rfl ⟨⟨rfl, trivial⟩, trivial, rfl, rfl, rfl⟩ (by kernel_rfl) (by kernel_rfl) ?_
  refine Zd rfl rfl (.tuple #[slv 1 0 ((Z8 (⟨1, 2, 3, 0, dz⟩ : Claim)).1.length) ((Z8 (⟨1, 2, 3, 0, dz⟩ : Claim)).1.length), Iv ((Z8 (⟨1, 2, 3, 0, dz⟩ : Claim)).2)]) rfl (Zt (vs := #[slv 1 0 ((Z8 (⟨1, 2, 3, 0, dz⟩ : Claim)).1.length) ((Z8 (⟨1, 2, 3, 0, dz⟩ : Claim)).1.length), Iv ((Z8 (⟨1, 2, 3, 0, dz⟩ : Claim)).2)]) (v := slv 1 0 ((Z8 (⟨1, 2, 3, 0, dz⟩ : Claim)).1.length) ((Z8 (⟨1, 2, 3, 0, dz⟩ : Claim)).1.length)) rfl rfl rfl rfl (Zt (vs := #[slv 1 0 ((Z8 (⟨1, 2, 3, 0, dz⟩ : Claim)).1.length) ((Z8 (⟨1, 2, 3, 0, dz⟩ : Claim)).1.length), Iv ((Z8 (⟨1, 2, 3, 0, dz⟩ : Claim)).2)]) (v := Iv ((Z8 (⟨1, 2, 3, 0, dz⟩ : Claim)).2)) rfl rfl rfl rfl (Zb rfl rfl (slv 1 0 ((Z8 (⟨1, 2, 3, 0, dz⟩ : Claim)).1.length) ((Z8 (⟨1, 2, 3, 0, dz⟩ : Claim)).1.length)) rfl (Zb rfl rfl (Iv ((Z8 (⟨1, 2, 3, 0, dz⟩ : Claim)).2)) rfl (Za (Zc (Zg (Zi (Zd rfl rfl (slv 1 0 ((Z8 (⟨1, 2, 3, 0, dz⟩ : Claim)).1.length) ((Z8 (⟨1, 2, 3, 0, dz⟩ : Claim)).1.length)) rfl ?_)))))))))
  have hg7 := Zu1 (c := (⟨1, 2, 3, 0, dz⟩ : Claim)) Zsz
  have hg07 := hg7.1
  have hgl7 := Zi3 (⟨1, 2, 3, 0, dz⟩ : Claim)
  refine Zad (e := [some (1, 0)]) (nid := 0) (Zjx (G := G) ((Z8 (⟨1, 2, 3, 0, dz⟩ : Claim)).1) ((Z8 (⟨1, 2, 3, 0, dz⟩ : Claim)).1.length) (by omega) (by omega)) (vals := [slv 1 0 ((Z8 (⟨1, 2, 3, 0, dz⟩ : Claim)).1.length) ((Z8 (⟨1, 2, 3, 0, dz⟩ : Claim)).1.length)]) (v := .tuple #[Zz ((Z9 ((Z8 (⟨1, 2, 3, 0, dz⟩ : Claim)).1)).1), Iv ((Z9 ((Z8 (⟨1, 2, 3, 0, dz⟩ : Claim)).1)).2)]) (H' := [bxB 36 (Zw (⟨1, 2, 3, 0, dz⟩ : Claim)), Zy ((Z8 (⟨1, 2, 3, 0, dz⟩ : Claim)).1), hole]) rfl rfl rfl rfl rfl rfl rfl ⟨⟨⟨rfl, rfl, rfl, by first | omega | exact Nat.le_refl _, by first | omega | exact Nat.le_refl _⟩, trivial⟩, ⟨(Ze1 rfl), trivial⟩, rfl, rfl, rfl⟩ (by kernel_rfl) (by kernel_rfl) ?_
  refine Zd rfl rfl (.tuple #[Zz ((Z9 ((Z8 (⟨1, 2, 3, 0, dz⟩ : Claim)).1)).1), Iv ((Z9 ((Z8 (⟨1, 2, 3, 0, dz⟩ : Claim)).1)).2)]) rfl (Zt (vs := #[Zz ((Z9 ((Z8 (⟨1, 2, 3, 0, dz⟩ : Claim)).1)).1), Iv ((Z9 ((Z8 (⟨1, 2, 3, 0, dz⟩ : Claim)).1)).2)]) (v := Zz ((Z9 ((Z8 (⟨1, 2, 3, 0, dz⟩ : Claim)).1)).1)) rfl rfl rfl rfl (Zt (vs := #[Zz ((Z9 ((Z8 (⟨1, 2, 3, 0, dz⟩ : Claim)).1)).1), Iv ((Z9 ((Z8 (⟨1, 2, 3, 0, dz⟩ : Claim)).1)).2)]) (v := Iv ((Z9 ((Z8 (⟨1, 2, 3, 0, dz⟩ : Claim)).1)).2)) rfl rfl rfl rfl ?_))
  refine Zae (b := bxB 36 (Zw (⟨0, 0, 0, 0, dz⟩ : Claim))) (nid := 2) (H' := [bxB 36 (Zw (⟨1, 2, 3, 0, dz⟩ : Claim)), Zy ((Z8 (⟨1, 2, 3, 0, dz⟩ : Claim)).1), bxB 36 (Zw (⟨0, 0, 0, 0, dz⟩ : Claim))]) rfl rfl (by kernel_rfl) (by kernel_rfl) ?_
  refine Zr (p := pt 2 0) (v := Zz ((Z9 ((Z8 (⟨1, 2, 3, 0, dz⟩ : Claim)).1)).1)) (b := 2) (blk := bxB 36 (Zw ((Z9 ((Z8 (⟨1, 2, 3, 0, dz⟩ : Claim)).1)).1))) (H' := [bxB 36 (Zw (⟨1, 2, 3, 0, dz⟩ : Claim)), Zy ((Z8 (⟨1, 2, 3, 0, dz⟩ : Claim)).1), bxB 36 (Zw ((Z9 ((Z8 (⟨1, 2, 3, 0, dz⟩ : Claim)).1)).1))]) rfl rfl rfl (by kernel_rfl) (by kernel_rfl) ?_
  refine Zb rfl rfl (Iv ((Z9 ((Z8 (⟨1, 2, 3, 0, dz⟩ : Claim)).1)).2)) rfl (Za (Zc (Zg (Zi (Zd rfl rfl (Iv ((Z8 (⟨1, 2, 3, 0, dz⟩ : Claim)).2)) rfl ?_)))))
  refine Zn (vx := Iv ((Z8 (⟨1, 2, 3, 0, dz⟩ : Claim)).2)) (vy := Iv 0) rfl rfl (.bool true) rfl rfl (Zbs (by omega)) ?_
  refine Zd rfl rfl (.bool true) rfl (Zd rfl rfl (Iv ((Z9 ((Z8 (⟨1, 2, 3, 0, dz⟩ : Claim)).1)).2)) rfl ?_)
  refine Zn (vx := Iv ((Z9 ((Z8 (⟨1, 2, 3, 0, dz⟩ : Claim)).1)).2)) (vy := Iv 0) rfl rfl (.bool true) rfl rfl (Zbs (by omega)) ?_
  refine Zk rfl rfl (.bool true) rfl (Zd rfl rfl (.bool true) rfl ?_)
  refine Zo (p := pt 2 0) (v := Zz ((Z9 ((Z8 (⟨1, 2, 3, 0, dz⟩ : Claim)).1)).1)) rfl rfl rfl (by kernel_rfl) ?_
  refine Zo (p := pt 0 0) (v := Zz (⟨1, 2, 3, 0, dz⟩ : Claim)) rfl rfl rfl (by kernel_rfl) ?_
  refine Zn (vx := Zz ((Z9 ((Z8 (⟨1, 2, 3, 0, dz⟩ : Claim)).1)).1)) (vy := Zz (⟨1, 2, 3, 0, dz⟩ : Claim)) rfl rfl (.bool true) rfl rfl (Eq.trans (Zi5 ((Z9 ((Z8 (⟨1, 2, 3, 0, dz⟩ : Claim)).1)).1) (⟨1, 2, 3, 0, dz⟩ : Claim)) (by rw [hg7.2] <;> rfl)) ?_
  refine Zk rfl rfl (.bool true) rfl (Zd rfl rfl (.bool true) rfl ?_)
  refine Zo (p := pt 0 0) (v := Zz (⟨1, 2, 3, 0, dz⟩ : Claim)) rfl rfl rfl (by kernel_rfl) ?_
  refine Zs ((Zgw (G := G) (⟨1, 2, 3, 0, dz⟩ : Claim)).res (congrArg (Value.int .i64) (show Ze4 (⟨1, 2, 3, 0, dz⟩ : Claim) = 0 from by kernel_rfl))) (vals := [Zz (⟨1, 2, 3, 0, dz⟩ : Claim)]) (res' := Iv 0) rfl rfl rfl rfl rfl rfl ?_
  refine Zn (vx := Iv 0) (vy := Iv 0) rfl rfl (.bool true) rfl rfl (Zbs (by omega)) ?_
  refine Zk rfl rfl (.bool true) rfl (Zd rfl rfl (.bool true) rfl ?_)
  refine Zaw (vs := []) (v := Zz (⟨0, 0, 0, 0, dz⟩ : Claim)) rfl rfl rfl (by kernel_rfl) ?_
  refine Zs ((Zgw (G := G) (⟨0, 0, 0, 0, dz⟩ : Claim)).res (congrArg (Value.int .i64) (show Ze4 (⟨0, 0, 0, 0, dz⟩ : Claim) = 60 from by kernel_rfl))) (vals := [Zz (⟨0, 0, 0, 0, dz⟩ : Claim)]) (res' := Iv 60) rfl rfl rfl rfl rfl rfl ?_
  refine Zn (vx := Iv 60) (vy := Iv 60) rfl rfl (.bool true) rfl rfl (Zbs (by omega)) ?_
  refine Zk rfl rfl (.bool true) rfl (Zb rfl rfl (.bool true) rfl (Za (Zc (Zv (Zu ?_)))))
  exact Znj (v := .bool true) rfl rfl rfl
theorem Zni (c : Claim) (hr : Za8 c) : Zao Tryd.prog G 90 [Zz c] [] (slv 0 0 (Z8 c).1.length (Z8 c).1.length) [Zy (Z8 c).1] := by
  unfold Za8 at hr
  refine Zbv (fn := Tryd.f90) (nt := 20) rfl rfl rfl rfl ?_
  refine Zat 3 (H' := [hole, hole, hole]) rfl ?_
  refine Zg (Zi ?_)
  refine Zel (v := Zz c) (b := bxB 36 (Zw c)) (nid := 0) (H' := [bxB 36 (Zw c), hole, hole]) rfl rfl rfl (by kernel_rfl) (by kernel_rfl) ?_
  refine Zb rfl rfl (.slice none 0 0) rfl (Za (Zc (Zg ?_)))
  refine Zfv (by kernel_rfl) ?_
  refine Zj (b := 0) (o := 0) (n := 0) (o' := 0) rfl rfl rfl rfl rfl ?_
  refine Zo (p := pt 0 0) (v := Iv c.region) rfl rfl rfl (by kernel_rfl) ?_
  refine Zs (Zd4 (G := G) c.region (by omega) (by omega)) (vals := [Iv c.region]) (res' := .string ((Zp c.region).1)) rfl rfl rfl rfl rfl rfl ?_
  refine Zj (b := 0) (o := 0) (n := 1) (o' := 1) rfl rfl rfl rfl rfl ?_
  refine Zo (p := pt 0 1) (v := Iv c.epoch) rfl rfl rfl (by kernel_rfl) ?_
  refine Zs (Zd4 (G := G) c.epoch (by omega) (by omega)) (vals := [Iv c.epoch]) (res' := .string ((Zp c.epoch).1)) rfl rfl rfl rfl rfl rfl ?_
  refine Zj (b := 0) (o := 0) (n := 2) (o' := 2) rfl rfl rfl rfl rfl ?_
  refine Zo (p := pt 0 2) (v := Iv c.node) rfl rfl rfl (by kernel_rfl) ?_
  refine Zs (Zd4 (G := G) c.node (by omega) (by omega)) (vals := [Iv c.node]) (res' := .string ((Zp c.node).1)) rfl rfl rfl rfl rfl rfl ?_
  refine Zj (b := 0) (o := 0) (n := 3) (o' := 3) rfl rfl rfl rfl rfl ?_
  refine Zo (p := pt 0 3) (v := Iv c.size) rfl rfl rfl (by kernel_rfl) ?_
  refine Zs (Zd4 (G := G) c.size (by omega) (by omega)) (vals := [Iv c.size]) (res' := .string ((Zp c.size).1)) rfl rfl rfl rfl rfl rfl ?_
  refine Zj (b := 0) (o := 0) (n := 4) (o' := 4) rfl rfl rfl rfl rfl ?_
  refine Zo (p := pt 0 4) (v := dgV c.root) rfl rfl rfl (by kernel_rfl) ?_
  refine Zs (Zln (G := G) c.root) (vals := [dgV c.root]) (res' := .string (Zl (dgL c.root))) rfl rfl rfl rfl rfl rfl ?_
  refine Zd5 (vs := [(0, .string ((Zp c.region).1)), (1, .string ((Zp c.epoch).1)), (2, .string ((Zp c.node).1)), (3, .string ((Zp c.size).1)), (4, .string (Zl (dgL c.root)))]) (v := slv 1 0 5 5) (blk := txB [(Zp c.region).1, (Zp c.epoch).1, (Zp c.node).1, (Zp c.size).1, (Zl (dgL c.root))]) (nid := 1) (H' := [bxB 36 (Zw c), txB [(Zp c.region).1, (Zp c.epoch).1, (Zp c.node).1, (Zp c.size).1, (Zl (dgL c.root))], hole]) rfl rfl rfl (by kernel_rfl) (by kernel_rfl) ?_
  refine Zad (e := [some (1, 0)]) (nid := 2) (Zm7 (G := G) [(Zp c.region).1, (Zp c.epoch).1, (Zp c.node).1, (Zp c.size).1, (Zl (dgL c.root))] 5 5 (by rfl) (by first | omega | exact Nat.le_refl _) (by omega) (Zkp c)) (vals := [slv 1 0 5 5]) (v := slv 2 0 ((Zaj [(Zp c.region).1, (Zp c.epoch).1, (Zp c.node).1, (Zp c.size).1, (Zl (dgL c.root))]).length) ((Zaj [(Zp c.region).1, (Zp c.epoch).1, (Zp c.node).1, (Zp c.size).1, (Zl (dgL c.root))]).length)) (H' := [bxB 36 (Zw c), txB [(Zp c.region).1, (Zp c.epoch).1, (Zp c.node).1, (Zp c.size).1, (Zl (dgL c.root))], Zy (Zaj [(Zp c.region).1, (Zp c.epoch).1, (Zp c.node).1, (Zp c.size).1, (Zl (dgL c.root))])]) rfl rfl rfl rfl rfl rfl rfl ⟨⟨⟨rfl, rfl, rfl, by first | omega | exact Nat.le_refl _, by first | omega | exact Nat.le_refl _⟩, trivial⟩, ⟨(Zg9 rfl), trivial⟩, rfl, rfl, rfl⟩ (by kernel_rfl) (by kernel_rfl) ?_
  refine Zb rfl rfl (slv 2 0 ((Zaj [(Zp c.region).1, (Zp c.epoch).1, (Zp c.node).1, (Zp c.size).1, (Zl (dgL c.root))]).length) ((Zaj [(Zp c.region).1, (Zp c.epoch).1, (Zp c.node).1, (Zp c.size).1, (Zl (dgL c.root))]).length)) rfl ?_
  refine Zeo (Zdr [[], [0], [0, 1], [], [3], [0, 1, 2, 3, 4], [], [6], [0, 1, 2, 3, 4, 5, 6, 7], [], [9], [0, 1, 2, 3, 4, 5, 6, 7, 8, 9, 10], [], [12], [0, 1, 2, 3, 4, 5, 6, 7, 8, 9, 10, 11, 12, 13], [0, 1, 2, 3, 4, 5, 6, 7, 8, 9, 10, 11, 12, 13, 14], [0, 1, 2, 3, 4, 5, 6, 7, 8, 9, 10, 11, 12, 13, 14, 15], [0, 1, 2, 3, 4, 5, 6, 7, 8, 9, 10, 11, 12, 13, 14, 15, 16]] (by kernel_rfl) (by kernel_rfl)) ?_
  refine Zc (Zv (Zu ?_))
  rw [show (Z8 c).1 = Zaj (Zfb c) from by rw [show Z8 c = _ from if_pos hr]; rfl]
  exact Za5 [2] (v := slv 2 0 ((Zaj [(Zp c.region).1, (Zp c.epoch).1, (Zp c.node).1, (Zp c.size).1, (Zl (dgL c.root))]).length) ((Zaj [(Zp c.region).1, (Zp c.epoch).1, (Zp c.node).1, (Zp c.size).1, (Zl (dgL c.root))]).length)) rfl (by kernel_rfl) rfl rfl (by decide) (by simp [Zac, Zy]) ⟨rfl, rfl, rfl, by first | omega | exact Nat.le_refl _ | exact Nat.zero_le _ | (dsimp only; omega), by first | omega | exact Nat.le_refl _ | exact Nat.zero_le _ | (dsimp only; omega)⟩
end Go.Flat
