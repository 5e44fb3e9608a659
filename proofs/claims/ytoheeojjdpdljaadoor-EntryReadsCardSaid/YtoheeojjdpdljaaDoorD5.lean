/- Walks. -/
import Derived.Test.YtoheeojjdpdljaaDoorD4
import Derived.Test.YtoheeojjdpdljaaDoorL1
set_option linter.unusedVariables false
set_option linter.unusedSimpArgs false
set_option maxRecDepth 20000
namespace Go.Flat
open Go.Proofs
variable {G : Glob}
theorem Zp6 (kk : Nat → BitVec 32) (hG : G 1 = some (Zbx w32 64 kk)) (b : Bs) (c : Nat) (hc : b.length ≤ c) (hcc : c ≤ 9223372036854775807) : Zao Tryd.prog G 5 [slv 0 0 b.length c] [rdB b] (.bool true) [rdB b] := by
  refine Zbv (fn := Tryd.f5) (nt := 143) rfl rfl rfl rfl ?_
  refine Zat 10 (H' := [rdB b, hole, hole, hole, hole, hole, hole, hole, hole, hole, hole]) rfl ?_
  refine Zg (Zi (Zb rfl rfl (.bool false) rfl (Za (Zc (Zg (Zg (Zi (Zd rfl rfl (slv 0 0 b.length c) rfl ?_))))))))
  refine Zb7 (p := slv 0 0 b.length c) (v := Iv (b.length : Nat)) rfl rfl rfl rfl ?_
  by_cases h1 : 16384 < (b.length : Nat)
  refine Zn (vx := Iv (b.length : Nat)) (vy := Iv 16384) rfl rfl (.bool true) rfl rfl (Zf1 (by omega)) ?_
  refine Za (Zc (Z0 rfl (Zg (Zi (Zb rfl rfl (.bool true) rfl (Za (Zc (Zv (Z5 (Zu ?_))))))))))
  exact Za5 [0] (v := .bool true) rfl (by kernel_rfl) rfl rfl (by decide) (by simp [Zac, rdB]) rfl
  refine Zn (vx := Iv (b.length : Nat)) (vy := Iv 16384) rfl rfl (.bool false) rfl rfl (Zf8 (by omega)) ?_
  refine Za (Zc (Zx rfl (Zai (Zc (Zg (Zi (Zd rfl rfl (slv 0 0 b.length c) rfl ?_)))))))
  refine Zad (e := [some (0, 0)]) (nid := 1) (Z2u (G := G) b b.length c rfl hc (by omega)) (vals := [slv 0 0 b.length c]) (v := slv 1 0 b.length (b.length + 7)) (H' := [rdB b, Zy (b ++ List.replicate 7 195#8), hole, hole, hole, hole, hole, hole, hole, hole, hole]) rfl rfl rfl rfl rfl rfl rfl ⟨⟨⟨rfl, rfl, rfl, by omega, by omega⟩, trivial⟩, ⟨(Zdk rfl), trivial⟩, rfl, rfl, rfl⟩ (by kernel_rfl) (by kernel_rfl) ?_
  refine Zb rfl rfl (slv 1 0 b.length (b.length + 7)) rfl (Za (Zc (Zg (Zi (Zd rfl rfl (slv 1 0 b.length (b.length + 7)) rfl ?_)))))
  refine Zad (e := [some (1, 0)]) (nid := 0) (Zvr (G := G) b b.length (b.length + 7) rfl (by omega) (by omega)) (vals := [slv 1 0 b.length (b.length + 7)]) (v := .tuple #[Zz ((Z9 b).1), Iv ((Z9 b).2)]) (H' := [rdB b, Zy (b ++ List.replicate 7 195#8), hole, hole, hole, hole, hole, hole, hole, hole, hole]) rfl rfl rfl rfl rfl rfl rfl ⟨⟨⟨rfl, by omega, rfl, by omega, by omega⟩, trivial⟩, ⟨(Zme rfl (.inr rfl) (by have := (Zmu (b := b) rfl); omega)), trivial⟩, rfl, rfl, rfl⟩ (by kernel_rfl) (by kernel_rfl) ?_
  refine Zd rfl rfl (.tuple #[Zz ((Z9 b).1), Iv ((Z9 b).2)]) rfl (Zt (vs := #[Zz ((Z9 b).1), Iv ((Z9 b).2)]) (v := Zz ((Z9 b).1)) rfl rfl rfl rfl (Zt (vs := #[Zz ((Z9 b).1), Iv ((Z9 b).2)]) (v := Iv ((Z9 b).2)) rfl rfl rfl rfl ?_))
  refine Zae (b := bxB 36 (Zw (⟨0, 0, 0, 0, dz⟩ : Claim))) (nid := 2) (H' := [rdB b, Zy (b ++ List.replicate 7 195#8), bxB 36 (Zw (⟨0, 0, 0, 0, dz⟩ : Claim)), hole, hole, hole, hole, hole, hole, hole, hole]) rfl rfl (by kernel_rfl) (by kernel_rfl) ?_
  refine Zr (p := pt 2 0) (v := Zz ((Z9 b).1)) (b := 2) (blk := bxB 36 (Zw ((Z9 b).1))) (H' := [rdB b, Zy (b ++ List.replicate 7 195#8), bxB 36 (Zw ((Z9 b).1)), hole, hole, hole, hole, hole, hole, hole, hole]) rfl rfl rfl (by kernel_rfl) (by kernel_rfl) ?_
  refine Zb rfl rfl (Iv ((Z9 b).2)) rfl (Za (Zc (Zg (Zi (Zd rfl rfl (slv 0 0 b.length c) rfl ?_)))))
  refine Zad (e := [some (0, 0)]) (nid := 0) (Zmx (G := G) b c hc (by omega) hcc) (vals := [slv 0 0 b.length c]) (v := .tuple #[Zz ((Z9 b).1), Iv ((Z9 b).2)]) (H' := [rdB b, Zy (b ++ List.replicate 7 195#8), bxB 36 (Zw ((Z9 b).1)), hole, hole, hole, hole, hole, hole, hole, hole]) rfl rfl rfl rfl rfl rfl rfl ⟨⟨⟨rfl, rfl, rfl, by first | omega | exact Nat.le_refl _, by first | omega | exact Nat.le_refl _⟩, trivial⟩, ⟨(Zdk rfl), trivial⟩, rfl, rfl, rfl⟩ (by kernel_rfl) (by kernel_rfl) ?_
  refine Zd rfl rfl (.tuple #[Zz ((Z9 b).1), Iv ((Z9 b).2)]) rfl (Zt (vs := #[Zz ((Z9 b).1), Iv ((Z9 b).2)]) (v := Zz ((Z9 b).1)) rfl rfl rfl rfl (Zt (vs := #[Zz ((Z9 b).1), Iv ((Z9 b).2)]) (v := Iv ((Z9 b).2)) rfl rfl rfl rfl ?_))
  refine Zae (b := bxB 36 (Zw (⟨0, 0, 0, 0, dz⟩ : Claim))) (nid := 3) (H' := [rdB b, Zy (b ++ List.replicate 7 195#8), bxB 36 (Zw ((Z9 b).1)), bxB 36 (Zw (⟨0, 0, 0, 0, dz⟩ : Claim)), hole, hole, hole, hole, hole, hole, hole]) rfl rfl (by kernel_rfl) (by kernel_rfl) ?_
  refine Zr (p := pt 3 0) (v := Zz ((Z9 b).1)) (b := 3) (blk := bxB 36 (Zw ((Z9 b).1))) (H' := [rdB b, Zy (b ++ List.replicate 7 195#8), bxB 36 (Zw ((Z9 b).1)), bxB 36 (Zw ((Z9 b).1)), hole, hole, hole, hole, hole, hole, hole]) rfl rfl rfl (by kernel_rfl) (by kernel_rfl) ?_
  refine Zb rfl rfl (Iv ((Z9 b).2)) rfl (Za (Zc (Zg (Zi (Zd rfl rfl (slv 1 0 b.length (b.length + 7)) rfl ?_)))))
  refine Zad (e := [some (1, 0)]) (nid := 0) (Z40 (G := G) b b.length (b.length + 7) rfl (by omega) (by omega)) (vals := [slv 1 0 b.length (b.length + 7)]) (v := .tuple #[Zaz ((Z4 b).1), Iv ((Z4 b).2)]) (H' := [rdB b, Zy (b ++ List.replicate 7 195#8), bxB 36 (Zw ((Z9 b).1)), bxB 36 (Zw ((Z9 b).1)), hole, hole, hole, hole, hole, hole, hole]) rfl rfl rfl rfl rfl rfl rfl ⟨⟨⟨rfl, by omega, rfl, by omega, by omega⟩, trivial⟩, ⟨(Zme rfl (.inr rfl) (by have := (Zmu (b := b) rfl); omega)), trivial⟩, rfl, rfl, rfl⟩ (by kernel_rfl) (by kernel_rfl) ?_
  refine Zd rfl rfl (.tuple #[Zaz ((Z4 b).1), Iv ((Z4 b).2)]) rfl (Zt (vs := #[Zaz ((Z4 b).1), Iv ((Z4 b).2)]) (v := Zaz ((Z4 b).1)) rfl rfl rfl rfl (Zt (vs := #[Zaz ((Z4 b).1), Iv ((Z4 b).2)]) (v := Iv ((Z4 b).2)) rfl rfl rfl rfl ?_))
  refine Zae (b := bxB 109 (Z2 (⟨0, 0, 0, ⟨#[]⟩, (⟨(⟨0, 0, 0, dz, 0⟩ : Head), 0, dz⟩ : Signed), (⟨0, 0, 0, 0, dz⟩ : Claim)⟩ : Entry))) (nid := 4) (H' := [rdB b, Zy (b ++ List.replicate 7 195#8), bxB 36 (Zw ((Z9 b).1)), bxB 36 (Zw ((Z9 b).1)), bxB 109 (Z2 (⟨0, 0, 0, ⟨#[]⟩, (⟨(⟨0, 0, 0, dz, 0⟩ : Head), 0, dz⟩ : Signed), (⟨0, 0, 0, 0, dz⟩ : Claim)⟩ : Entry)), hole, hole, hole, hole, hole, hole]) rfl rfl (by kernel_rfl) (by kernel_rfl) ?_
  refine Zr (p := pt 4 0) (v := Zaz ((Z4 b).1)) (b := 4) (blk := bxB 109 (Z2 ((Z4 b).1))) (H' := [rdB b, Zy (b ++ List.replicate 7 195#8), bxB 36 (Zw ((Z9 b).1)), bxB 36 (Zw ((Z9 b).1)), bxB 109 (Z2 ((Z4 b).1)), hole, hole, hole, hole, hole, hole]) rfl rfl rfl (by kernel_rfl) (by kernel_rfl) ?_
  refine Zb rfl rfl (Iv ((Z4 b).2)) rfl (Za (Zc (Zg (Zi (Zd rfl rfl (slv 0 0 b.length c) rfl ?_)))))
  refine Zad (e := [some (0, 0)]) (nid := 0) (Zss (G := G) b c hc (by omega) hcc) (vals := [slv 0 0 b.length c]) (v := .tuple #[Zaz ((Z4 b).1), Iv ((Z4 b).2)]) (H' := [rdB b, Zy (b ++ List.replicate 7 195#8), bxB 36 (Zw ((Z9 b).1)), bxB 36 (Zw ((Z9 b).1)), bxB 109 (Z2 ((Z4 b).1)), hole, hole, hole, hole, hole, hole]) rfl rfl rfl rfl rfl rfl rfl ⟨⟨⟨rfl, rfl, rfl, by first | omega | exact Nat.le_refl _, by first | omega | exact Nat.le_refl _⟩, trivial⟩, ⟨(Zdk rfl), trivial⟩, rfl, rfl, rfl⟩ (by kernel_rfl) (by kernel_rfl) ?_
  refine Zd rfl rfl (.tuple #[Zaz ((Z4 b).1), Iv ((Z4 b).2)]) rfl (Zt (vs := #[Zaz ((Z4 b).1), Iv ((Z4 b).2)]) (v := Zaz ((Z4 b).1)) rfl rfl rfl rfl (Zt (vs := #[Zaz ((Z4 b).1), Iv ((Z4 b).2)]) (v := Iv ((Z4 b).2)) rfl rfl rfl rfl ?_))
  refine Zae (b := bxB 109 (Z2 (⟨0, 0, 0, ⟨#[]⟩, (⟨(⟨0, 0, 0, dz, 0⟩ : Head), 0, dz⟩ : Signed), (⟨0, 0, 0, 0, dz⟩ : Claim)⟩ : Entry))) (nid := 5) (H' := [rdB b, Zy (b ++ List.replicate 7 195#8), bxB 36 (Zw ((Z9 b).1)), bxB 36 (Zw ((Z9 b).1)), bxB 109 (Z2 ((Z4 b).1)), bxB 109 (Z2 (⟨0, 0, 0, ⟨#[]⟩, (⟨(⟨0, 0, 0, dz, 0⟩ : Head), 0, dz⟩ : Signed), (⟨0, 0, 0, 0, dz⟩ : Claim)⟩ : Entry)), hole, hole, hole, hole, hole]) rfl rfl (by kernel_rfl) (by kernel_rfl) ?_
  refine Zr (p := pt 5 0) (v := Zaz ((Z4 b).1)) (b := 5) (blk := bxB 109 (Z2 ((Z4 b).1))) (H' := [rdB b, Zy (b ++ List.replicate 7 195#8), bxB 36 (Zw ((Z9 b).1)), bxB 36 (Zw ((Z9 b).1)), bxB 109 (Z2 ((Z4 b).1)), bxB 109 (Z2 ((Z4 b).1)), hole, hole, hole, hole, hole]) rfl rfl rfl (by kernel_rfl) (by kernel_rfl) ?_
  refine Zb rfl rfl (Iv ((Z4 b).2)) rfl (Za (Zc (Zg (Zi (Zd rfl rfl (slv 1 0 b.length (b.length + 7)) rfl ?_)))))
  refine Zad (e := [some (1, 0)]) (nid := 0) (Zxr (G := G) b b.length (b.length + 7) rfl (by omega) (by omega)) (vals := [slv 1 0 b.length (b.length + 7)]) (v := .tuple #[Za4 ((Zal b).1), Iv ((Zal b).2)]) (H' := [rdB b, Zy (b ++ List.replicate 7 195#8), bxB 36 (Zw ((Z9 b).1)), bxB 36 (Zw ((Z9 b).1)), bxB 109 (Z2 ((Z4 b).1)), bxB 109 (Z2 ((Z4 b).1)), hole, hole, hole, hole, hole]) rfl rfl rfl rfl rfl rfl rfl ⟨⟨⟨rfl, by omega, rfl, by omega, by omega⟩, trivial⟩, ⟨(Zme rfl (.inr rfl) (by have := (Zmu (b := b) rfl); omega)), trivial⟩, rfl, rfl, rfl⟩ (by kernel_rfl) (by kernel_rfl) ?_
  refine Zd rfl rfl (.tuple #[Za4 ((Zal b).1), Iv ((Zal b).2)]) rfl (Zt (vs := #[Za4 ((Zal b).1), Iv ((Zal b).2)]) (v := Za4 ((Zal b).1)) rfl rfl rfl rfl (Zt (vs := #[Za4 ((Zal b).1), Iv ((Zal b).2)]) (v := Iv ((Zal b).2)) rfl rfl rfl rfl ?_))
  refine Zae (b := bxB 110 (Zab (⟨0, (⟨0, 0, 0, ⟨#[]⟩, (⟨(⟨0, 0, 0, dz, 0⟩ : Head), 0, dz⟩ : Signed), (⟨0, 0, 0, 0, dz⟩ : Claim)⟩ : Entry)⟩ : Item))) (nid := 6) (H' := [rdB b, Zy (b ++ List.replicate 7 195#8), bxB 36 (Zw ((Z9 b).1)), bxB 36 (Zw ((Z9 b).1)), bxB 109 (Z2 ((Z4 b).1)), bxB 109 (Z2 ((Z4 b).1)), bxB 110 (Zab (⟨0, (⟨0, 0, 0, ⟨#[]⟩, (⟨(⟨0, 0, 0, dz, 0⟩ : Head), 0, dz⟩ : Signed), (⟨0, 0, 0, 0, dz⟩ : Claim)⟩ : Entry)⟩ : Item)), hole, hole, hole, hole]) rfl rfl (by kernel_rfl) (by kernel_rfl) ?_
  refine Zr (p := pt 6 0) (v := Za4 ((Zal b).1)) (b := 6) (blk := bxB 110 (Zab ((Zal b).1))) (H' := [rdB b, Zy (b ++ List.replicate 7 195#8), bxB 36 (Zw ((Z9 b).1)), bxB 36 (Zw ((Z9 b).1)), bxB 109 (Z2 ((Z4 b).1)), bxB 109 (Z2 ((Z4 b).1)), bxB 110 (Zab ((Zal b).1)), hole, hole, hole, hole]) rfl rfl rfl (by kernel_rfl) (by kernel_rfl) ?_
  refine Zb rfl rfl (Iv ((Zal b).2)) rfl (Za (Zc (Zg (Zi (Zd rfl rfl (slv 0 0 b.length c) rfl ?_)))))
  refine Zad (e := [some (0, 0)]) (nid := 0) (Zts (G := G) b c hc (by omega) hcc) (vals := [slv 0 0 b.length c]) (v := .tuple #[Za4 ((Zal b).1), Iv ((Zal b).2)]) (H' := [rdB b, Zy (b ++ List.replicate 7 195#8), bxB 36 (Zw ((Z9 b).1)), bxB 36 (Zw ((Z9 b).1)), bxB 109 (Z2 ((Z4 b).1)), bxB 109 (Z2 ((Z4 b).1)), bxB 110 (Zab ((Zal b).1)), hole, hole, hole, hole]) rfl rfl rfl rfl rfl rfl rfl ⟨⟨⟨rfl, rfl, rfl, by first | omega | exact Nat.le_refl _, by first | omega | exact Nat.le_refl _⟩, trivial⟩, ⟨(Zdk rfl), trivial⟩, rfl, rfl, rfl⟩ (by kernel_rfl) (by kernel_rfl) ?_
  refine Zd rfl rfl (.tuple #[Za4 ((Zal b).1), Iv ((Zal b).2)]) rfl (Zt (vs := #[Za4 ((Zal b).1), Iv ((Zal b).2)]) (v := Za4 ((Zal b).1)) rfl rfl rfl rfl (Zt (vs := #[Za4 ((Zal b).1), Iv ((Zal b).2)]) (v := Iv ((Zal b).2)) rfl rfl rfl rfl ?_))
  refine Zae (b := bxB 110 (Zab (⟨0, (⟨0, 0, 0, ⟨#[]⟩, (⟨(⟨0, 0, 0, dz, 0⟩ : Head), 0, dz⟩ : Signed), (⟨0, 0, 0, 0, dz⟩ : Claim)⟩ : Entry)⟩ : Item))) (nid := 7) (H' := [rdB b, Zy (b ++ List.replicate 7 195#8), bxB 36 (Zw ((Z9 b).1)), bxB 36 (Zw ((Z9 b).1)), bxB 109 (Z2 ((Z4 b).1)), bxB 109 (Z2 ((Z4 b).1)), bxB 110 (Zab ((Zal b).1)), bxB 110 (Zab (⟨0, (⟨0, 0, 0, ⟨#[]⟩, (⟨(⟨0, 0, 0, dz, 0⟩ : Head), 0, dz⟩ : Signed), (⟨0, 0, 0, 0, dz⟩ : Claim)⟩ : Entry)⟩ : Item)), hole, hole, hole]) rfl rfl (by kernel_rfl) (by kernel_rfl) ?_
  refine Zr (p := pt 7 0) (v := Za4 ((Zal b).1)) (b := 7) (blk := bxB 110 (Zab ((Zal b).1))) (H' := [rdB b, Zy (b ++ List.replicate 7 195#8), bxB 36 (Zw ((Z9 b).1)), bxB 36 (Zw ((Z9 b).1)), bxB 109 (Z2 ((Z4 b).1)), bxB 109 (Z2 ((Z4 b).1)), bxB 110 (Zab ((Zal b).1)), bxB 110 (Zab ((Zal b).1)), hole, hole, hole]) rfl rfl rfl (by kernel_rfl) (by kernel_rfl) ?_
  refine Zb rfl rfl (Iv ((Zal b).2)) rfl (Za (Zc (Zg (Zg (Zi ?_)))))
  refine Zo (p := pt 2 0) (v := Zz ((Z9 b).1)) rfl rfl rfl (by kernel_rfl) ?_
  refine Zo (p := pt 3 0) (v := Zz ((Z9 b).1)) rfl rfl rfl (by kernel_rfl) ?_
  refine Zn (vx := Zz ((Z9 b).1)) (vy := Zz ((Z9 b).1)) rfl rfl (.bool false) rfl rfl (Eq.trans (Zx7 ((Z9 b).1) ((Z9 b).1)) (by rw [(Zf4 _)] <;> rfl)) ?_
  refine Zd rfl rfl (.bool false) rfl (Zd rfl rfl (Iv ((Z9 b).2)) rfl (Zd rfl rfl (Iv ((Z9 b).2)) rfl ?_))
  refine Zn (vx := Iv ((Z9 b).2)) (vy := Iv ((Z9 b).2)) rfl rfl (.bool false) rfl rfl (Zds (by omega)) ?_
  refine Zk rfl rfl (.bool false) rfl (Zd rfl rfl (.bool false) rfl ?_)
  refine Zo (p := pt 4 0) (v := Zaz ((Z4 b).1)) rfl rfl rfl (by kernel_rfl) ?_
  refine Zo (p := pt 5 0) (v := Zaz ((Z4 b).1)) rfl rfl rfl (by kernel_rfl) ?_
  refine Zn (vx := Zaz ((Z4 b).1)) (vy := Zaz ((Z4 b).1)) rfl rfl (.bool false) rfl rfl (Eq.trans (Zyq ((Z4 b).1) ((Z4 b).1)) (by rw [(Zo6 _)] <;> rfl)) ?_
  refine Zk rfl rfl (.bool false) rfl (Zd rfl rfl (.bool false) rfl (Zd rfl rfl (Iv ((Z4 b).2)) rfl (Zd rfl rfl (Iv ((Z4 b).2)) rfl ?_)))
  refine Zn (vx := Iv ((Z4 b).2)) (vy := Iv ((Z4 b).2)) rfl rfl (.bool false) rfl rfl (Zds (by omega)) ?_
  refine Zk rfl rfl (.bool false) rfl (Zd rfl rfl (.bool false) rfl ?_)
  refine Zo (p := pt 6 0) (v := Za4 ((Zal b).1)) rfl rfl rfl (by kernel_rfl) ?_
  refine Zo (p := pt 7 0) (v := Za4 ((Zal b).1)) rfl rfl rfl (by kernel_rfl) ?_
  refine Zn (vx := Za4 ((Zal b).1)) (vy := Za4 ((Zal b).1)) rfl rfl (.bool false) rfl rfl (Eq.trans (Zzj ((Zal b).1) ((Zal b).1)) (by rw [(Zus _)] <;> rfl)) ?_
  refine Zk rfl rfl (.bool false) rfl (Zd rfl rfl (.bool false) rfl (Zd rfl rfl (Iv ((Zal b).2)) rfl (Zd rfl rfl (Iv ((Zal b).2)) rfl ?_)))
  refine Zn (vx := Iv ((Zal b).2)) (vy := Iv ((Zal b).2)) rfl rfl (.bool false) rfl rfl (Zds (by omega)) ?_
  refine Zk rfl rfl (.bool false) rfl (Zd rfl rfl (.bool false) rfl (Zd rfl rfl (slv 1 0 b.length (b.length + 7)) rfl (Zd rfl rfl (slv 0 0 b.length c) rfl ?_)))
  refine Zad (e := [some (1, 0), some (0, 0)]) (nid := 0) (Z3e (G := G) b b.length c rfl hc (by omega)) (vals := [slv 1 0 b.length (b.length + 7), slv 0 0 b.length c]) (v := .bool true) (H' := [rdB b, Zy (b ++ List.replicate 7 195#8), bxB 36 (Zw ((Z9 b).1)), bxB 36 (Zw ((Z9 b).1)), bxB 109 (Z2 ((Z4 b).1)), bxB 109 (Z2 ((Z4 b).1)), bxB 110 (Zab ((Zal b).1)), bxB 110 (Zab ((Zal b).1)), hole, hole, hole]) rfl rfl rfl rfl rfl rfl rfl ⟨⟨⟨rfl, rfl, rfl, by omega, by omega⟩, ⟨rfl, rfl, rfl, by omega, by omega⟩, trivial⟩, ⟨(Ze1 rfl), (Zdk rfl), trivial⟩, rfl, rfl, rfl⟩ rfl (by kernel_rfl) ?_
  refine Zef (vx := .bool true) rfl rfl (.bool false) rfl Zb1 ?_
  refine Zk rfl rfl (.bool false) rfl (Za (Zc (Zx rfl (Zai (Zc (Zg (Zi ?_)))))))
  refine Zo (p := pt 2 0) (v := Zz ((Z9 b).1)) rfl rfl rfl (by kernel_rfl) ?_
  have hpl10 := Zi3 ((Z9 b).1)
  refine Zad (e := []) (nid := 8) (Zh9 (G := G) ((Z9 b).1)) (vals := [Zz ((Z9 b).1)]) (v := .tuple #[slv 8 0 ((Z8 ((Z9 b).1)).1.length) ((Z8 ((Z9 b).1)).1.length), Iv ((Z8 ((Z9 b).1)).2)]) (H' := [rdB b, Zy (b ++ List.replicate 7 195#8), bxB 36 (Zw ((Z9 b).1)), bxB 36 (Zw ((Z9 b).1)), bxB 109 (Z2 ((Z4 b).1)), bxB 109 (Z2 ((Z4 b).1)), bxB 110 (Zab ((Zal b).1)), bxB 110 (Zab ((Zal b).1)), Zy ((Z8 ((Z9 b).1)).1), hole, hole]) rfl rfl rfl rfl rfl rfl rfl ⟨⟨rfl, trivial⟩, trivial, rfl, rfl, rfl⟩ (by kernel_rfl) (by kernel_rfl) ?_
  refine Zd rfl rfl (.tuple #[slv 8 0 ((Z8 ((Z9 b).1)).1.length) ((Z8 ((Z9 b).1)).1.length), Iv ((Z8 ((Z9 b).1)).2)]) rfl (Zt (vs := #[slv 8 0 ((Z8 ((Z9 b).1)).1.length) ((Z8 ((Z9 b).1)).1.length), Iv ((Z8 ((Z9 b).1)).2)]) (v := slv 8 0 ((Z8 ((Z9 b).1)).1.length) ((Z8 ((Z9 b).1)).1.length)) rfl rfl rfl rfl (Zt (vs := #[slv 8 0 ((Z8 ((Z9 b).1)).1.length) ((Z8 ((Z9 b).1)).1.length), Iv ((Z8 ((Z9 b).1)).2)]) (v := Iv ((Z8 ((Z9 b).1)).2)) rfl rfl rfl rfl (Zb rfl rfl (slv 8 0 ((Z8 ((Z9 b).1)).1.length) ((Z8 ((Z9 b).1)).1.length)) rfl (Zb rfl rfl (Iv ((Z8 ((Z9 b).1)).2)) rfl (Za (Zc (Zg (Zi ?_))))))))
  refine Zo (p := pt 4 0) (v := Zaz ((Z4 b).1)) rfl rfl rfl (by kernel_rfl) ?_
  have hpl11 := Zj9 ((Z4 b).1)
  refine Zad (e := []) (nid := 9) (Zr6 (G := G) ((Z4 b).1)) (vals := [Zaz ((Z4 b).1)]) (v := .tuple #[slv 9 0 ((Zaf ((Z4 b).1)).1.length) ((Zaf ((Z4 b).1)).1.length), Iv ((Zaf ((Z4 b).1)).2)]) (H' := [rdB b, Zy (b ++ List.replicate 7 195#8), bxB 36 (Zw ((Z9 b).1)), bxB 36 (Zw ((Z9 b).1)), bxB 109 (Z2 ((Z4 b).1)), bxB 109 (Z2 ((Z4 b).1)), bxB 110 (Zab ((Zal b).1)), bxB 110 (Zab ((Zal b).1)), Zy ((Z8 ((Z9 b).1)).1), Zy ((Zaf ((Z4 b).1)).1), hole]) rfl rfl rfl rfl rfl rfl rfl ⟨⟨rfl, trivial⟩, trivial, rfl, rfl, rfl⟩ (by kernel_rfl) (by kernel_rfl) ?_
  refine Zd rfl rfl (.tuple #[slv 9 0 ((Zaf ((Z4 b).1)).1.length) ((Zaf ((Z4 b).1)).1.length), Iv ((Zaf ((Z4 b).1)).2)]) rfl (Zt (vs := #[slv 9 0 ((Zaf ((Z4 b).1)).1.length) ((Zaf ((Z4 b).1)).1.length), Iv ((Zaf ((Z4 b).1)).2)]) (v := slv 9 0 ((Zaf ((Z4 b).1)).1.length) ((Zaf ((Z4 b).1)).1.length)) rfl rfl rfl rfl (Zt (vs := #[slv 9 0 ((Zaf ((Z4 b).1)).1.length) ((Zaf ((Z4 b).1)).1.length), Iv ((Zaf ((Z4 b).1)).2)]) (v := Iv ((Zaf ((Z4 b).1)).2)) rfl rfl rfl rfl (Zb rfl rfl (slv 9 0 ((Zaf ((Z4 b).1)).1.length) ((Zaf ((Z4 b).1)).1.length)) rfl (Zb rfl rfl (Iv ((Zaf ((Z4 b).1)).2)) rfl (Za (Zc (Zg (Zi ?_))))))))
  refine Zo (p := pt 6 0) (v := Za4 ((Zal b).1)) rfl rfl rfl (by kernel_rfl) ?_
  have hpl12 := Zmv ((Zal b).1)
  refine Zad (e := []) (nid := 10) (Zi8 (G := G) ((Zal b).1)) (vals := [Za4 ((Zal b).1)]) (v := .tuple #[slv 10 0 ((Z7 ((Zal b).1)).1.length) ((Z7 ((Zal b).1)).1.length), Iv ((Z7 ((Zal b).1)).2)]) (H' := [rdB b, Zy (b ++ List.replicate 7 195#8), bxB 36 (Zw ((Z9 b).1)), bxB 36 (Zw ((Z9 b).1)), bxB 109 (Z2 ((Z4 b).1)), bxB 109 (Z2 ((Z4 b).1)), bxB 110 (Zab ((Zal b).1)), bxB 110 (Zab ((Zal b).1)), Zy ((Z8 ((Z9 b).1)).1), Zy ((Zaf ((Z4 b).1)).1), Zy ((Z7 ((Zal b).1)).1)]) rfl rfl rfl rfl rfl rfl rfl ⟨⟨rfl, trivial⟩, trivial, rfl, rfl, rfl⟩ (by kernel_rfl) (by kernel_rfl) ?_
  refine Zd rfl rfl (.tuple #[slv 10 0 ((Z7 ((Zal b).1)).1.length) ((Z7 ((Zal b).1)).1.length), Iv ((Z7 ((Zal b).1)).2)]) rfl (Zt (vs := #[slv 10 0 ((Z7 ((Zal b).1)).1.length) ((Z7 ((Zal b).1)).1.length), Iv ((Z7 ((Zal b).1)).2)]) (v := slv 10 0 ((Z7 ((Zal b).1)).1.length) ((Z7 ((Zal b).1)).1.length)) rfl rfl rfl rfl (Zt (vs := #[slv 10 0 ((Z7 ((Zal b).1)).1.length) ((Z7 ((Zal b).1)).1.length), Iv ((Z7 ((Zal b).1)).2)]) (v := Iv ((Z7 ((Zal b).1)).2)) rfl rfl rfl rfl (Zb rfl rfl (slv 10 0 ((Z7 ((Zal b).1)).1.length) ((Z7 ((Zal b).1)).1.length)) rfl (Zb rfl rfl (Iv ((Z7 ((Zal b).1)).2)) rfl (Za (Zc (Zg (Zi ?_))))))))
  refine Zs (Zyd (G := G)) (vals := []) (res' := .bool true) rfl rfl rfl rfl rfl rfl ?_
  refine Zd rfl rfl (.bool true) rfl ?_
  refine Zs (Z0f (G := G) kk hG) (vals := []) (res' := .bool true) rfl rfl rfl rfl rfl rfl ?_
  refine Zk rfl rfl (.bool true) rfl (Zd rfl rfl (.bool true) rfl (Zd rfl rfl (Iv ((Z9 b).2)) rfl ?_))
  by_cases h2 : ((Z9 b).2) ≠ 0
  refine Zn (vx := Iv ((Z9 b).2)) (vy := Iv 0) rfl rfl (.bool true) rfl rfl (Zeg (by omega)) ?_
  refine Zd rfl rfl (.bool true) rfl (Zf rfl rfl (Zf rfl rfl (Zf rfl rfl (Zf rfl rfl (Zf rfl rfl (Zk rfl rfl (.bool true) rfl (Zk rfl rfl (.bool true) rfl (Zd rfl rfl (.bool true) rfl (Zd rfl rfl (Iv ((Z4 b).2)) rfl ?_)))))))))
  by_cases h3 : ((Z4 b).2) ≠ 0
  refine Zn (vx := Iv ((Z4 b).2)) (vy := Iv 0) rfl rfl (.bool true) rfl rfl (Zeg (by omega)) ?_
  refine Zd rfl rfl (.bool true) rfl (Zf rfl rfl (Zf rfl rfl (Zf rfl rfl (Zf rfl rfl (Zf rfl rfl (Zk rfl rfl (.bool true) rfl (Zk rfl rfl (.bool true) rfl (Zd rfl rfl (.bool true) rfl (Zd rfl rfl (Iv ((Zal b).2)) rfl ?_)))))))))
  by_cases h4 : ((Zal b).2) ≠ 0
  refine Zn (vx := Iv ((Zal b).2)) (vy := Iv 0) rfl rfl (.bool true) rfl rfl (Zeg (by omega)) ?_
  refine Zd rfl rfl (.bool true) rfl (Zf rfl rfl (Zf rfl rfl (Zf rfl rfl (Zf rfl rfl (Zf rfl rfl (Zk rfl rfl (.bool true) rfl (Zk rfl rfl (.bool true) rfl (Zb rfl rfl (.bool true) rfl (Za (Zc (Zv (Zu ?_))))))))))))
  exact Za5 [0] (v := .bool true) rfl (by kernel_rfl) rfl rfl (by decide) (by simp [Zac, rdB]) rfl
  refine Zn (vx := Iv ((Zal b).2)) (vy := Iv 0) rfl rfl (.bool false) rfl rfl (Zds (by omega)) ?_
  refine Zd rfl rfl (.bool false) rfl (Zd rfl rfl (slv 10 0 ((Z7 ((Zal b).1)).1.length) ((Z7 ((Zal b).1)).1.length)) rfl ?_)
  refine Zc6 (p := slv 10 0 ((Z7 ((Zal b).1)).1.length) ((Z7 ((Zal b).1)).1.length)) (v := .string (Zl ((Z7 ((Zal b).1)).1))) rfl rfl rfl (Zbi rfl rfl rfl rfl rfl (by omega)) ?_
  refine Zd rfl rfl (slv 0 0 b.length c) rfl ?_
  refine Zc6 (p := slv 0 0 b.length c) (v := .string (Zl b)) rfl rfl rfl (Zbi rfl rfl rfl rfl rfl (by omega)) ?_
  rcases Bool.eq_false_or_eq_true (Zbq (Zl ((Z7 ((Zal b).1)).1)) (Zl b)) with h5 | h5
  refine Zn (vx := .string (Zl ((Z7 ((Zal b).1)).1))) (vy := .string (Zl b)) rfl rfl (.bool true) rfl rfl (Eq.trans (Zda _ _) (by rw [h5] <;> rfl)) ?_
  refine Zk rfl rfl (.bool true) rfl (Zk rfl rfl (.bool true) rfl (Zb rfl rfl (.bool true) rfl (Za (Zc (Zv (Zu ?_))))))
  exact Za5 [0] (v := .bool true) rfl (by kernel_rfl) rfl rfl (by decide) (by simp [Zac, rdB]) rfl
  refine Zn (vx := .string (Zl ((Z7 ((Zal b).1)).1))) (vy := .string (Zl b)) rfl rfl (.bool false) rfl rfl (Eq.trans (Zda _ _) (by rw [h5] <;> rfl)) ?_
  refine Zk rfl rfl (.bool false) rfl (Zk rfl rfl (.bool false) rfl (Zb rfl rfl (.bool false) rfl (Za (Zc (Zv (Zu ?_))))))
  exfalso
  · first | (have i1 := Zlr (b := b) (by omega); simp_all; done) | (have i1 := Zlk (b := b) (by omega); simp_all; done) | (have i1 := Zll (b := b) (by omega); simp_all; done)
  refine Zn (vx := Iv ((Z4 b).2)) (vy := Iv 0) rfl rfl (.bool false) rfl rfl (Zds (by omega)) ?_
  refine Zd rfl rfl (.bool false) rfl (Zd rfl rfl (slv 9 0 ((Zaf ((Z4 b).1)).1.length) ((Zaf ((Z4 b).1)).1.length)) rfl ?_)
  refine Zc6 (p := slv 9 0 ((Zaf ((Z4 b).1)).1.length) ((Zaf ((Z4 b).1)).1.length)) (v := .string (Zl ((Zaf ((Z4 b).1)).1))) rfl rfl rfl (Zbi rfl rfl rfl rfl rfl (by omega)) ?_
  refine Zd rfl rfl (slv 0 0 b.length c) rfl ?_
  refine Zc6 (p := slv 0 0 b.length c) (v := .string (Zl b)) rfl rfl rfl (Zbi rfl rfl rfl rfl rfl (by omega)) ?_
  rcases Bool.eq_false_or_eq_true (Zbq (Zl ((Zaf ((Z4 b).1)).1)) (Zl b)) with h6 | h6
  refine Zn (vx := .string (Zl ((Zaf ((Z4 b).1)).1))) (vy := .string (Zl b)) rfl rfl (.bool true) rfl rfl (Eq.trans (Zda _ _) (by rw [h6] <;> rfl)) ?_
  refine Zk rfl rfl (.bool true) rfl (Zk rfl rfl (.bool true) rfl (Zd rfl rfl (.bool true) rfl (Zd rfl rfl (Iv ((Zal b).2)) rfl ?_)))
  by_cases h7 : ((Zal b).2) ≠ 0
  refine Zn (vx := Iv ((Zal b).2)) (vy := Iv 0) rfl rfl (.bool true) rfl rfl (Zeg (by omega)) ?_
  refine Zd rfl rfl (.bool true) rfl (Zf rfl rfl (Zf rfl rfl (Zf rfl rfl (Zf rfl rfl (Zf rfl rfl (Zk rfl rfl (.bool true) rfl (Zk rfl rfl (.bool true) rfl (Zb rfl rfl (.bool true) rfl (Za (Zc (Zv (Zu ?_))))))))))))
  exact Za5 [0] (v := .bool true) rfl (by kernel_rfl) rfl rfl (by decide) (by simp [Zac, rdB]) rfl
  refine Zn (vx := Iv ((Zal b).2)) (vy := Iv 0) rfl rfl (.bool false) rfl rfl (Zds (by omega)) ?_
  refine Zd rfl rfl (.bool false) rfl (Zd rfl rfl (slv 10 0 ((Z7 ((Zal b).1)).1.length) ((Z7 ((Zal b).1)).1.length)) rfl ?_)
  refine Zc6 (p := slv 10 0 ((Z7 ((Zal b).1)).1.length) ((Z7 ((Zal b).1)).1.length)) (v := .string (Zl ((Z7 ((Zal b).1)).1))) rfl rfl rfl (Zbi rfl rfl rfl rfl rfl (by omega)) ?_
  refine Zd rfl rfl (slv 0 0 b.length c) rfl ?_
  refine Zc6 (p := slv 0 0 b.length c) (v := .string (Zl b)) rfl rfl rfl (Zbi rfl rfl rfl rfl rfl (by omega)) ?_
  rcases Bool.eq_false_or_eq_true (Zbq (Zl ((Z7 ((Zal b).1)).1)) (Zl b)) with h8 | h8
  refine Zn (vx := .string (Zl ((Z7 ((Zal b).1)).1))) (vy := .string (Zl b)) rfl rfl (.bool true) rfl rfl (Eq.trans (Zda _ _) (by rw [h8] <;> rfl)) ?_
  refine Zk rfl rfl (.bool true) rfl (Zk rfl rfl (.bool true) rfl (Zb rfl rfl (.bool true) rfl (Za (Zc (Zv (Zu ?_))))))
  exact Za5 [0] (v := .bool true) rfl (by kernel_rfl) rfl rfl (by decide) (by simp [Zac, rdB]) rfl
  refine Zn (vx := .string (Zl ((Z7 ((Zal b).1)).1))) (vy := .string (Zl b)) rfl rfl (.bool false) rfl rfl (Eq.trans (Zda _ _) (by rw [h8] <;> rfl)) ?_
  refine Zk rfl rfl (.bool false) rfl (Zk rfl rfl (.bool false) rfl (Zb rfl rfl (.bool false) rfl (Za (Zc (Zv (Zu ?_))))))
  exfalso
  · first | (have i1 := Zlr (b := b) (by omega); simp_all; done) | (have i1 := Zlk (b := b) (by omega); simp_all; done) | (have i1 := Zll (b := b) (by omega); simp_all; done)
  refine Zn (vx := .string (Zl ((Zaf ((Z4 b).1)).1))) (vy := .string (Zl b)) rfl rfl (.bool false) rfl rfl (Eq.trans (Zda _ _) (by rw [h6] <;> rfl)) ?_
  refine Zk rfl rfl (.bool false) rfl (Zk rfl rfl (.bool false) rfl (Zd rfl rfl (.bool false) rfl (Zf rfl rfl (Zf rfl rfl (Zf rfl rfl (Zf rfl rfl (Zf rfl rfl (Zf rfl rfl (Zf rfl rfl (Zf rfl rfl (Zf rfl rfl (Zk rfl rfl (.bool false) rfl (Zb rfl rfl (.bool false) rfl (Za (Zc (Zv (Zu ?_)))))))))))))))))
  exfalso
  · first | (have i1 := Zlr (b := b) (by omega); simp_all; done) | (have i1 := Zlk (b := b) (by omega); simp_all; done) | (have i1 := Zll (b := b) (by omega); simp_all; done)
  refine Zn (vx := Iv ((Z9 b).2)) (vy := Iv 0) rfl rfl (.bool false) rfl rfl (Zds (by omega)) ?_
  refine Zd rfl rfl (.bool false) rfl (Zd rfl rfl (slv 8 0 ((Z8 ((Z9 b).1)).1.length) ((Z8 ((Z9 b).1)).1.length)) rfl ?_)
  refine Zc6 (p := slv 8 0 ((Z8 ((Z9 b).1)).1.length) ((Z8 ((Z9 b).1)).1.length)) (v := .string (Zl ((Z8 ((Z9 b).1)).1))) rfl rfl rfl (Zbi rfl rfl rfl rfl rfl (by omega)) ?_
  refine Zd rfl rfl (slv 0 0 b.length c) rfl ?_
  refine Zc6 (p := slv 0 0 b.length c) (v := .string (Zl b)) rfl rfl rfl (Zbi rfl rfl rfl rfl rfl (by omega)) ?_
  rcases Bool.eq_false_or_eq_true (Zbq (Zl ((Z8 ((Z9 b).1)).1)) (Zl b)) with h9 | h9
  refine Zn (vx := .string (Zl ((Z8 ((Z9 b).1)).1))) (vy := .string (Zl b)) rfl rfl (.bool true) rfl rfl (Eq.trans (Zda _ _) (by rw [h9] <;> rfl)) ?_
  refine Zk rfl rfl (.bool true) rfl (Zk rfl rfl (.bool true) rfl (Zd rfl rfl (.bool true) rfl (Zd rfl rfl (Iv ((Z4 b).2)) rfl ?_)))
  by_cases h10 : ((Z4 b).2) ≠ 0
  refine Zn (vx := Iv ((Z4 b).2)) (vy := Iv 0) rfl rfl (.bool true) rfl rfl (Zeg (by omega)) ?_
  refine Zd rfl rfl (.bool true) rfl (Zf rfl rfl (Zf rfl rfl (Zf rfl rfl (Zf rfl rfl (Zf rfl rfl (Zk rfl rfl (.bool true) rfl (Zk rfl rfl (.bool true) rfl (Zd rfl rfl (.bool true) rfl (Zd rfl rfl (Iv ((Zal b).2)) rfl ?_)))))))))
  by_cases h11 : ((Zal b).2) ≠ 0
  refine Zn (vx := Iv ((Zal b).2)) (vy := Iv 0) rfl rfl (.bool true) rfl rfl (Zeg (by omega)) ?_
  refine Zd rfl rfl (.bool true) rfl (Zf rfl rfl (Zf rfl rfl (Zf rfl rfl (Zf rfl rfl (Zf rfl rfl (Zk rfl rfl (.bool true) rfl (Zk rfl rfl (.bool true) rfl (Zb rfl rfl (.bool true) rfl (Za (Zc (Zv (Zu ?_))))))))))))
  exact Za5 [0] (v := .bool true) rfl (by kernel_rfl) rfl rfl (by decide) (by simp [Zac, rdB]) rfl
  refine Zn (vx := Iv ((Zal b).2)) (vy := Iv 0) rfl rfl (.bool false) rfl rfl (Zds (by omega)) ?_
  refine Zd rfl rfl (.bool false) rfl (Zd rfl rfl (slv 10 0 ((Z7 ((Zal b).1)).1.length) ((Z7 ((Zal b).1)).1.length)) rfl ?_)
  refine Zc6 (p := slv 10 0 ((Z7 ((Zal b).1)).1.length) ((Z7 ((Zal b).1)).1.length)) (v := .string (Zl ((Z7 ((Zal b).1)).1))) rfl rfl rfl (Zbi rfl rfl rfl rfl rfl (by omega)) ?_
  refine Zd rfl rfl (slv 0 0 b.length c) rfl ?_
  refine Zc6 (p := slv 0 0 b.length c) (v := .string (Zl b)) rfl rfl rfl (Zbi rfl rfl rfl rfl rfl (by omega)) ?_
  rcases Bool.eq_false_or_eq_true (Zbq (Zl ((Z7 ((Zal b).1)).1)) (Zl b)) with h12 | h12
  refine Zn (vx := .string (Zl ((Z7 ((Zal b).1)).1))) (vy := .string (Zl b)) rfl rfl (.bool true) rfl rfl (Eq.trans (Zda _ _) (by rw [h12] <;> rfl)) ?_
  refine Zk rfl rfl (.bool true) rfl (Zk rfl rfl (.bool true) rfl (Zb rfl rfl (.bool true) rfl (Za (Zc (Zv (Zu ?_))))))
  exact Za5 [0] (v := .bool true) rfl (by kernel_rfl) rfl rfl (by decide) (by simp [Zac, rdB]) rfl
  refine Zn (vx := .string (Zl ((Z7 ((Zal b).1)).1))) (vy := .string (Zl b)) rfl rfl (.bool false) rfl rfl (Eq.trans (Zda _ _) (by rw [h12] <;> rfl)) ?_
  refine Zk rfl rfl (.bool false) rfl (Zk rfl rfl (.bool false) rfl (Zb rfl rfl (.bool false) rfl (Za (Zc (Zv (Zu ?_))))))
  exfalso
  · first | (have i1 := Zlr (b := b) (by omega); simp_all; done) | (have i1 := Zlk (b := b) (by omega); simp_all; done) | (have i1 := Zll (b := b) (by omega); simp_all; done)
  refine Zn (vx := Iv ((Z4 b).2)) (vy := Iv 0) rfl rfl (.bool false) rfl rfl (Zds (by omega)) ?_
  refine Zd rfl rfl (.bool false) rfl (Zd rfl rfl (slv 9 0 ((Zaf ((Z4 b).1)).1.length) ((Zaf ((Z4 b).1)).1.length)) rfl ?_)
  refine Zc6 (p := slv 9 0 ((Zaf ((Z4 b).1)).1.length) ((Zaf ((Z4 b).1)).1.length)) (v := .string (Zl ((Zaf ((Z4 b).1)).1))) rfl rfl rfl (Zbi rfl rfl rfl rfl rfl (by omega)) ?_
  refine Zd rfl rfl (slv 0 0 b.length c) rfl ?_
  refine Zc6 (p := slv 0 0 b.length c) (v := .string (Zl b)) rfl rfl rfl (Zbi rfl rfl rfl rfl rfl (by omega)) ?_
  rcases Bool.eq_false_or_eq_true (Zbq (Zl ((Zaf ((Z4 b).1)).1)) (Zl b)) with h13 | h13
  refine Zn (vx := .string (Zl ((Zaf ((Z4 b).1)).1))) (vy := .string (Zl b)) rfl rfl (.bool true) rfl rfl (Eq.trans (Zda _ _) (by rw [h13] <;> rfl)) ?_
  refine Zk rfl rfl (.bool true) rfl (Zk rfl rfl (.bool true) rfl (Zd rfl rfl (.bool true) rfl (Zd rfl rfl (Iv ((Zal b).2)) rfl ?_)))
  by_cases h14 : ((Zal b).2) ≠ 0
  refine Zn (vx := Iv ((Zal b).2)) (vy := Iv 0) rfl rfl (.bool true) rfl rfl (Zeg (by omega)) ?_
  refine Zd rfl rfl (.bool true) rfl (Zf rfl rfl (Zf rfl rfl (Zf rfl rfl (Zf rfl rfl (Zf rfl rfl (Zk rfl rfl (.bool true) rfl (Zk rfl rfl (.bool true) rfl (Zb rfl rfl (.bool true) rfl (Za (Zc (Zv (Zu ?_))))))))))))
  exact Za5 [0] (v := .bool true) rfl (by kernel_rfl) rfl rfl (by decide) (by simp [Zac, rdB]) rfl
  refine Zn (vx := Iv ((Zal b).2)) (vy := Iv 0) rfl rfl (.bool false) rfl rfl (Zds (by omega)) ?_
  refine Zd rfl rfl (.bool false) rfl (Zd rfl rfl (slv 10 0 ((Z7 ((Zal b).1)).1.length) ((Z7 ((Zal b).1)).1.length)) rfl ?_)
  refine Zc6 (p := slv 10 0 ((Z7 ((Zal b).1)).1.length) ((Z7 ((Zal b).1)).1.length)) (v := .string (Zl ((Z7 ((Zal b).1)).1))) rfl rfl rfl (Zbi rfl rfl rfl rfl rfl (by omega)) ?_
  refine Zd rfl rfl (slv 0 0 b.length c) rfl ?_
  refine Zc6 (p := slv 0 0 b.length c) (v := .string (Zl b)) rfl rfl rfl (Zbi rfl rfl rfl rfl rfl (by omega)) ?_
  rcases Bool.eq_false_or_eq_true (Zbq (Zl ((Z7 ((Zal b).1)).1)) (Zl b)) with h15 | h15
  refine Zn (vx := .string (Zl ((Z7 ((Zal b).1)).1))) (vy := .string (Zl b)) rfl rfl (.bool true) rfl rfl (Eq.trans (Zda _ _) (by rw [h15] <;> rfl)) ?_
  refine Zk rfl rfl (.bool true) rfl (Zk rfl rfl (.bool true) rfl (Zb rfl rfl (.bool true) rfl (Za (Zc (Zv (Zu ?_))))))
  exact Za5 [0] (v := .bool true) rfl (by kernel_rfl) rfl rfl (by decide) (by simp [Zac, rdB]) rfl
  refine Zn (vx := .string (Zl ((Z7 ((Zal b).1)).1))) (vy := .string (Zl b)) rfl rfl (.bool false) rfl rfl (Eq.trans (Zda _ _) (by rw [h15] <;> rfl)) ?_
  refine Zk rfl rfl (.bool false) rfl (Zk rfl rfl (.bool false) rfl (Zb rfl rfl (.bool false) rfl (Za (Zc (Zv (Zu ?_))))))
  exfalso
  · first | (have i1 := Zlr (b := b) (by omega); simp_all; done) | (have i1 := Zlk (b := b) (by omega); simp_all; done) | (have i1 := Zll (b := b) (by omega); simp_all; done)
  refine Zn (vx := .string (Zl ((Zaf ((Z4 b).1)).1))) (vy := .string (Zl b)) rfl rfl (.bool false) rfl rfl (Eq.trans (Zda _ _) (by rw [h13] <;> rfl)) ?_
  refine Zk rfl rfl (.bool false) rfl (Zk rfl rfl (.bool false) rfl (Zd rfl rfl (.bool false) rfl (Zf rfl rfl (Zf rfl rfl (Zf rfl rfl (Zf rfl rfl (Zf rfl rfl (Zf rfl rfl (Zf rfl rfl (Zf rfl rfl (Zf rfl rfl (Zk rfl rfl (.bool false) rfl (Zb rfl rfl (.bool false) rfl (Za (Zc (Zv (Zu ?_)))))))))))))))))
  exfalso
  · first | (have i1 := Zlr (b := b) (by omega); simp_all; done) | (have i1 := Zlk (b := b) (by omega); simp_all; done) | (have i1 := Zll (b := b) (by omega); simp_all; done)
  refine Zn (vx := .string (Zl ((Z8 ((Z9 b).1)).1))) (vy := .string (Zl b)) rfl rfl (.bool false) rfl rfl (Eq.trans (Zda _ _) (by rw [h9] <;> rfl)) ?_
  refine Zk rfl rfl (.bool false) rfl (Zk rfl rfl (.bool false) rfl (Zd rfl rfl (.bool false) rfl (Zf rfl rfl (Zf rfl rfl (Zf rfl rfl (Zf rfl rfl (Zf rfl rfl (Zf rfl rfl (Zf rfl rfl (Zf rfl rfl (Zf rfl rfl (Zk rfl rfl (.bool false) rfl (Zd rfl rfl (.bool false) rfl (Zf rfl rfl (Zf rfl rfl (Zf rfl rfl (Zf rfl rfl (Zf rfl rfl (Zf rfl rfl (Zf rfl rfl (Zf rfl rfl (Zf rfl rfl (Zk rfl rfl (.bool false) rfl (Zb rfl rfl (.bool false) rfl (Za (Zc (Zv (Zu ?_))))))))))))))))))))))))))))
  exfalso
  · first | (have i1 := Zlr (b := b) (by omega); simp_all; done) | (have i1 := Zlk (b := b) (by omega); simp_all; done) | (have i1 := Zll (b := b) (by omega); simp_all; done)
theorem Zp0 (kk : Nat → BitVec 32) (hG : G 1 = some (Zbx w32 64 kk)) (b : Bs) (c : Nat) (hc : b.length ≤ c) (hcc : c ≤ 9223372036854775807) : Zao Tryd.prog G 5 [slv 0 0 b.length c] [rwR cU8 b] (.bool true) [rwR cU8 b] := by
 rw [Z41]; exact Zp6 kk hG b c hc hcc
end Go.Flat
