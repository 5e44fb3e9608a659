/- Walks. -/
import Derived.Test.YtbjlgbejbolohaaDoorH10
import Derived.Test.YtbjlgbejbolohaaDoorFlatH
set_option linter.unusedVariables false
set_option linter.unusedSimpArgs false
set_option maxRecDepth 20000
namespace Go.Flat
open Go.Proofs
variable {G : Glob}
def Zd5 (l : Bs) (n : Nat) : Field × Int × Int :=
  if (n : Nat) < 4 then ((⟨0, ⟨#[]⟩⟩ : Field), 0, 10) else
  if ((l.getD 0 0) == 0#8) = true then ((⟨0, ⟨#[]⟩⟩ : Field), 0, 11) else
  if 65536 < 65536 * ((((l.getD 1 0).toNat) : Nat) : Int) + 256 * ((((l.getD 2 0).toNat) : Nat) : Int) + ((((l.getD 3 0).toNat) : Nat) : Int) then ((⟨0, ⟨#[]⟩⟩ : Field), 0, 11) else
  if (n : Nat) - 4 < 65536 * ((((l.getD 1 0).toNat) : Nat) : Int) + 256 * ((((l.getD 2 0).toNat) : Nat) : Int) + ((((l.getD 3 0).toNat) : Nat) : Int) then ((⟨0, ⟨#[]⟩⟩ : Field), 0, 10) else
  ((⟨((((l.getD 0 0).toNat) : Nat) : Int), (Zs ((l.drop 4).take (65536 * ((l.getD 1 0).toNat) + 256 * ((l.getD 2 0).toNat) + ((l.getD 3 0).toNat))))⟩ : Field), 65536 * ((((l.getD 1 0).toNat) : Nat) : Int) + 256 * ((((l.getD 2 0).toNat) : Nat) : Int) + ((((l.getD 3 0).toNat) : Nat) : Int) + 4, 0)
theorem Z42 (l : Bs) (n c : Nat) (hn : l.length = n) (hc : n ≤ c) (hb : n ≤ 1099511627776) : Zac Tryd.prog G 72 [slv 0 0 n c] [rdB l] (.tuple #[fdV (Zd5 l n).1, Iv (Zd5 l n).2.1, Iv (Zd5 l n).2.2]) [rdB l] := by
 refine Zb8 (fn := Tryd.f72) (nt := 55) rfl rfl rfl rfl ?_
 refine Zah 1 (H' := [rdB l, hole]) rfl ?_
 refine Ze (Zf ?_)
 refine Zq (b := bxB 2 (fdC (⟨0, ⟨#[]⟩⟩ : Field))) (nid := 1) (H' := [rdB l, bxB 2 (fdC (⟨0, ⟨#[]⟩⟩ : Field))]) rfl rfl (by kernel_rfl) (by kernel_rfl) ?_
 refine Zc rfl rfl (Iv 0) rfl (Zc rfl rfl (Iv 0) rfl (Za (Zb (Ze (Ze (Zf (Zd rfl rfl (slv 0 0 n c) rfl ?_)))))))
 refine Za6 (p := slv 0 0 n c) (v := Iv (n : Nat)) rfl rfl rfl rfl ?_
 by_cases h1 : (n : Nat) < 4
 refine Zi (vx := Iv (n : Nat)) (vy := Iv 4) rfl rfl (.bool true) rfl rfl (Zcv (by omega)) ?_
 refine Za (Zb (Zu rfl (Ze (Zf ?_))))
 refine Zbf (vs := []) (v := fdV (⟨0, ⟨#[]⟩⟩ : Field)) rfl rfl rfl (by kernel_rfl) ?_
 refine Zj (p := pt 1 0) (v := fdV (⟨0, ⟨#[]⟩⟩ : Field)) (b := 1) (blk := bxB 2 (fdC (⟨0, ⟨#[]⟩⟩ : Field))) (H' := [rdB l, bxB 2 (fdC (⟨0, ⟨#[]⟩⟩ : Field))]) rfl rfl rfl (by kernel_rfl) (by kernel_rfl) ?_
 refine Zc rfl rfl (Iv 0) rfl (Zc rfl rfl (Iv 10) rfl (Za (Zb (Zw (Zaj (Zy ?_))))))
 rw [show Zd5 l n = ((⟨0, ⟨#[]⟩⟩ : Field), 0, 10) from by unfold Zd5; rw [if_pos h1]]
 exact Zo (v := .tuple #[fdV (⟨0, ⟨#[]⟩⟩ : Field), Iv 0, Iv 10]) (by kernel_rfl) rfl rfl (by simp [Za1, rdB]) ⟨(Zeg (by kernel_rfl) rfl), rfl, rfl, trivial⟩
 refine Zi (vx := Iv (n : Nat)) (vy := Iv 4) rfl rfl (.bool false) rfl rfl (Zbv (by omega)) ?_
 refine Za (Zb (Zr rfl (Z0 (Zb (Ze ?_)))))
 refine Zc4 (by kernel_rfl) ?_
 refine Zd rfl rfl (slv 0 0 n c) rfl ?_
 refine Zbe (b := 0) (o := 0) (j := 1) (m := n) (c := c) (sz := 1) (i := 1) (k := .i64) rfl rfl rfl rfl rfl (by omega) (by omega) (by omega) ?_
 refine Zg (p := pt 0 1) (v := w8 (l.getD 1 0)) rfl rfl rfl (Zg8 rfl rfl rfl (by have := hn; omega)) ?_
 have hw5 := BitVec.isLt (l.getD 1 0)
 refine Zcc (w := w8 (l.getD 1 0)) (v := Iv ((((l.getD 1 0).toNat) : Nat) : Int)) rfl rfl rfl (Zhx rfl rfl (by have := (l.getD 1 0).isLt; omega) (by have := (l.getD 1 0).isLt; omega)) ?_
 refine Zi (vx := Iv ((((l.getD 1 0).toNat) : Nat) : Int)) (vy := .int .u64 16) rfl rfl (Iv (65536 * ((((l.getD 1 0).toNat) : Nat) : Int))) rfl rfl (Z2e 16 (by omega) (by omega) (by omega) (by omega) (by omega)) ?_
 refine Zd rfl rfl (slv 0 0 n c) rfl ?_
 refine Zbe (b := 0) (o := 0) (j := 2) (m := n) (c := c) (sz := 1) (i := 2) (k := .i64) rfl rfl rfl rfl rfl (by omega) (by omega) (by omega) ?_
 refine Zg (p := pt 0 2) (v := w8 (l.getD 2 0)) rfl rfl rfl (Zg8 rfl rfl rfl (by have := hn; omega)) ?_
 have hw6 := BitVec.isLt (l.getD 2 0)
 refine Zcc (w := w8 (l.getD 2 0)) (v := Iv ((((l.getD 2 0).toNat) : Nat) : Int)) rfl rfl rfl (Zhx rfl rfl (by have := (l.getD 2 0).isLt; omega) (by have := (l.getD 2 0).isLt; omega)) ?_
 refine Zi (vx := Iv ((((l.getD 2 0).toNat) : Nat) : Int)) (vy := .int .u64 8) rfl rfl (Iv (256 * ((((l.getD 2 0).toNat) : Nat) : Int))) rfl rfl (Z2e 8 (by omega) (by omega) (by omega) (by omega) (by omega)) ?_
 refine Zi (vx := Iv (65536 * ((((l.getD 1 0).toNat) : Nat) : Int))) (vy := Iv (256 * ((((l.getD 2 0).toNat) : Nat) : Int))) rfl rfl (Iv (65536 * ((((l.getD 1 0).toNat) : Nat) : Int) + 256 * ((((l.getD 2 0).toNat) : Nat) : Int))) rfl rfl (Z6z 16 ((l.getD 1 0).toNat) (256 * ((l.getD 2 0).toNat)) (by omega) (by omega) (by omega) (by omega) (by omega)) ?_
 refine Zd rfl rfl (slv 0 0 n c) rfl ?_
 refine Zbe (b := 0) (o := 0) (j := 3) (m := n) (c := c) (sz := 1) (i := 3) (k := .i64) rfl rfl rfl rfl rfl (by omega) (by omega) (by omega) ?_
 refine Zg (p := pt 0 3) (v := w8 (l.getD 3 0)) rfl rfl rfl (Zg8 rfl rfl rfl (by have := hn; omega)) ?_
 have hw7 := BitVec.isLt (l.getD 3 0)
 refine Zcc (w := w8 (l.getD 3 0)) (v := Iv ((((l.getD 3 0).toNat) : Nat) : Int)) rfl rfl rfl (Zhx rfl rfl (by have := (l.getD 3 0).isLt; omega) (by have := (l.getD 3 0).isLt; omega)) ?_
 refine Zi (vx := Iv (65536 * ((((l.getD 1 0).toNat) : Nat) : Int) + 256 * ((((l.getD 2 0).toNat) : Nat) : Int))) (vy := Iv ((((l.getD 3 0).toNat) : Nat) : Int)) rfl rfl (Iv (65536 * ((((l.getD 1 0).toNat) : Nat) : Int) + 256 * ((((l.getD 2 0).toNat) : Nat) : Int) + ((((l.getD 3 0).toNat) : Nat) : Int))) rfl rfl (Z6z 8 (256 * ((l.getD 1 0).toNat) + ((l.getD 2 0).toNat)) ((l.getD 3 0).toNat) (by omega) (by omega) (by omega) (by omega) (by omega)) ?_
 refine Zc rfl rfl (Iv (65536 * ((((l.getD 1 0).toNat) : Nat) : Int) + 256 * ((((l.getD 2 0).toNat) : Nat) : Int) + ((((l.getD 3 0).toNat) : Nat) : Int))) rfl ?_
 refine Zca (by kernel_rfl) ?_
 refine Zb (Ze (Z1 (Ze (Zf (Zd rfl rfl (slv 0 0 n c) rfl ?_)))))
 refine Zbe (b := 0) (o := 0) (j := 0) (m := n) (c := c) (sz := 1) (i := 0) (k := .i64) rfl rfl rfl rfl rfl (by omega) (by omega) (by omega) ?_
 refine Zg (p := pt 0 0) (v := w8 (l.getD 0 0)) rfl rfl rfl (Zg8 rfl rfl rfl (by have := hn; omega)) ?_
 rcases Bool.eq_false_or_eq_true ((l.getD 0 0) == 0#8) with h2 | h2
 refine Zi (vx := w8 (l.getD 0 0)) (vy := w8 (0#8)) rfl rfl (.bool true) rfl rfl (Eq.trans Zy1 (by rw [h2] <;> rfl)) ?_
 refine Zd rfl rfl (.bool true) rfl (Zn rfl rfl (Zn rfl rfl (Zp rfl rfl (.bool true) rfl (Zc rfl rfl (.bool true) rfl (Za (Zb (Zu rfl (Ze (Zf ?_)))))))))
 refine Zbf (vs := []) (v := fdV (⟨0, ⟨#[]⟩⟩ : Field)) rfl rfl rfl (by kernel_rfl) ?_
 refine Zj (p := pt 1 0) (v := fdV (⟨0, ⟨#[]⟩⟩ : Field)) (b := 1) (blk := bxB 2 (fdC (⟨0, ⟨#[]⟩⟩ : Field))) (H' := [rdB l, bxB 2 (fdC (⟨0, ⟨#[]⟩⟩ : Field))]) rfl rfl rfl (by kernel_rfl) (by kernel_rfl) ?_
 refine Zc rfl rfl (Iv 0) rfl (Zc rfl rfl (Iv 11) rfl (Za (Zb (Zw (Zbc (Zaj (Zy ?_)))))))
 rw [show Zd5 l n = ((⟨0, ⟨#[]⟩⟩ : Field), 0, 11) from by unfold Zd5; rw [if_neg h1, if_pos h2]]
 exact Zo (v := .tuple #[fdV (⟨0, ⟨#[]⟩⟩ : Field), Iv 0, Iv 11]) (by kernel_rfl) rfl rfl (by simp [Za1, rdB]) ⟨(Zeg (by kernel_rfl) rfl), rfl, rfl, trivial⟩
 refine Zi (vx := w8 (l.getD 0 0)) (vy := w8 (0#8)) rfl rfl (.bool false) rfl rfl (Eq.trans Zy1 (by rw [h2] <;> rfl)) ?_
 refine Zd rfl rfl (.bool false) rfl (Zd rfl rfl (Iv (65536 * ((((l.getD 1 0).toNat) : Nat) : Int) + 256 * ((((l.getD 2 0).toNat) : Nat) : Int) + ((((l.getD 3 0).toNat) : Nat) : Int))) rfl ?_)
 by_cases h3 : 65536 < 65536 * ((((l.getD 1 0).toNat) : Nat) : Int) + 256 * ((((l.getD 2 0).toNat) : Nat) : Int) + ((((l.getD 3 0).toNat) : Nat) : Int)
 refine Zi (vx := Iv (65536 * ((((l.getD 1 0).toNat) : Nat) : Int) + 256 * ((((l.getD 2 0).toNat) : Nat) : Int) + ((((l.getD 3 0).toNat) : Nat) : Int))) (vy := Iv 65536) rfl rfl (.bool true) rfl rfl (Zde (by omega)) ?_
 refine Zp rfl rfl (.bool true) rfl (Zc rfl rfl (.bool true) rfl (Za (Zb (Zu rfl (Ze (Zf ?_))))))
 refine Zbf (vs := []) (v := fdV (⟨0, ⟨#[]⟩⟩ : Field)) rfl rfl rfl (by kernel_rfl) ?_
 refine Zj (p := pt 1 0) (v := fdV (⟨0, ⟨#[]⟩⟩ : Field)) (b := 1) (blk := bxB 2 (fdC (⟨0, ⟨#[]⟩⟩ : Field))) (H' := [rdB l, bxB 2 (fdC (⟨0, ⟨#[]⟩⟩ : Field))]) rfl rfl rfl (by kernel_rfl) (by kernel_rfl) ?_
 refine Zc rfl rfl (Iv 0) rfl (Zc rfl rfl (Iv 11) rfl (Za (Zb (Zw (Zbc (Zaj (Zy ?_)))))))
 rw [show Zd5 l n = ((⟨0, ⟨#[]⟩⟩ : Field), 0, 11) from by unfold Zd5; rw [if_neg h1, if_neg (by rw [h2]; decide), if_pos h3]]
 exact Zo (v := .tuple #[fdV (⟨0, ⟨#[]⟩⟩ : Field), Iv 0, Iv 11]) (by kernel_rfl) rfl rfl (by simp [Za1, rdB]) ⟨(Zeg (by kernel_rfl) rfl), rfl, rfl, trivial⟩
 refine Zi (vx := Iv (65536 * ((((l.getD 1 0).toNat) : Nat) : Int) + 256 * ((((l.getD 2 0).toNat) : Nat) : Int) + ((((l.getD 3 0).toNat) : Nat) : Int))) (vy := Iv 65536) rfl rfl (.bool false) rfl rfl (Zcw (by omega)) ?_
 refine Zp rfl rfl (.bool false) rfl (Zc rfl rfl (.bool false) rfl (Za (Zb (Zr rfl (Ze (Zf (Zd rfl rfl (slv 0 0 n c) rfl ?_)))))))
 refine Za6 (p := slv 0 0 n c) (v := Iv (n : Nat)) rfl rfl rfl rfl ?_
 refine Zi (vx := Iv (n : Nat)) (vy := Iv 4) rfl rfl (Iv ((n : Nat) - 4)) rfl rfl (Zb5 (by omega) (by omega) (by omega)) ?_
 refine Zd rfl rfl (Iv (65536 * ((((l.getD 1 0).toNat) : Nat) : Int) + 256 * ((((l.getD 2 0).toNat) : Nat) : Int) + ((((l.getD 3 0).toNat) : Nat) : Int))) rfl ?_
 by_cases h4 : (n : Nat) - 4 < 65536 * ((((l.getD 1 0).toNat) : Nat) : Int) + 256 * ((((l.getD 2 0).toNat) : Nat) : Int) + ((((l.getD 3 0).toNat) : Nat) : Int)
 refine Zi (vx := Iv ((n : Nat) - 4)) (vy := Iv (65536 * ((((l.getD 1 0).toNat) : Nat) : Int) + 256 * ((((l.getD 2 0).toNat) : Nat) : Int) + ((((l.getD 3 0).toNat) : Nat) : Int))) rfl rfl (.bool true) rfl rfl (Zcv (by omega)) ?_
 refine Zc rfl rfl (.bool true) rfl (Za (Zb (Zu rfl (Ze (Zf ?_)))))
 refine Zbf (vs := []) (v := fdV (⟨0, ⟨#[]⟩⟩ : Field)) rfl rfl rfl (by kernel_rfl) ?_
 refine Zj (p := pt 1 0) (v := fdV (⟨0, ⟨#[]⟩⟩ : Field)) (b := 1) (blk := bxB 2 (fdC (⟨0, ⟨#[]⟩⟩ : Field))) (H' := [rdB l, bxB 2 (fdC (⟨0, ⟨#[]⟩⟩ : Field))]) rfl rfl rfl (by kernel_rfl) (by kernel_rfl) ?_
 refine Zc rfl rfl (Iv 0) rfl (Zc rfl rfl (Iv 10) rfl (Za (Zb (Zw (Zbc (Zaj (Zy ?_)))))))
 rw [show Zd5 l n = ((⟨0, ⟨#[]⟩⟩ : Field), 0, 10) from by unfold Zd5; rw [if_neg h1, if_neg (by rw [h2]; decide), if_neg h3, if_pos h4]]
 exact Zo (v := .tuple #[fdV (⟨0, ⟨#[]⟩⟩ : Field), Iv 0, Iv 10]) (by kernel_rfl) rfl rfl (by simp [Za1, rdB]) ⟨(Zeg (by kernel_rfl) rfl), rfl, rfl, trivial⟩
 refine Zi (vx := Iv ((n : Nat) - 4)) (vy := Iv (65536 * ((((l.getD 1 0).toNat) : Nat) : Int) + 256 * ((((l.getD 2 0).toNat) : Nat) : Int) + ((((l.getD 3 0).toNat) : Nat) : Int))) rfl rfl (.bool false) rfl rfl (Zbv (by omega)) ?_
 refine Zc rfl rfl (.bool false) rfl (Za (Zb (Zr rfl (Z0 (Zag (Zb (Ze ?_)))))))
 refine Zc4 (by kernel_rfl) ?_
 refine Zd rfl rfl (slv 0 0 n c) rfl ?_
 refine Zbe (b := 0) (o := 0) (j := 0) (m := n) (c := c) (sz := 1) (i := 0) (k := .i64) rfl rfl rfl rfl rfl (by omega) (by omega) (by omega) ?_
 refine Zg (p := pt 0 0) (v := w8 (l.getD 0 0)) rfl rfl rfl (Zg8 rfl rfl rfl (by have := hn; omega)) ?_
 have hw8 := BitVec.isLt (l.getD 0 0)
 refine Zcc (w := w8 (l.getD 0 0)) (v := Iv ((((l.getD 0 0).toNat) : Nat) : Int)) rfl rfl rfl (Zhx rfl rfl (by have := (l.getD 0 0).isLt; omega) (by have := (l.getD 0 0).isLt; omega)) ?_
 refine Zd rfl rfl (slv 0 0 n c) rfl (Zd rfl rfl (Iv (65536 * ((((l.getD 1 0).toNat) : Nat) : Int) + 256 * ((((l.getD 2 0).toNat) : Nat) : Int) + ((((l.getD 3 0).toNat) : Nat) : Int))) rfl ?_)
 refine Zi (vx := Iv 4) (vy := Iv (65536 * ((((l.getD 1 0).toNat) : Nat) : Int) + 256 * ((((l.getD 2 0).toNat) : Nat) : Int) + ((((l.getD 3 0).toNat) : Nat) : Int))) rfl rfl (Iv (65536 * ((((l.getD 1 0).toNat) : Nat) : Int) + 256 * ((((l.getD 2 0).toNat) : Nat) : Int) + ((((l.getD 3 0).toNat) : Nat) : Int) + 4)) rfl rfl (Zap (by omega) (by omega) (by omega)) ?_
 refine Zci (p := slv 0 0 n c) (vl := some (Iv 4)) (vh := some (Iv (65536 * ((((l.getD 1 0).toNat) : Nat) : Int) + 256 * ((((l.getD 2 0).toNat) : Nat) : Int) + ((((l.getD 3 0).toNat) : Nat) : Int) + 4))) (v := slv 0 4 (65536 * ((l.getD 1 0).toNat) + 256 * ((l.getD 2 0).toNat) + ((l.getD 3 0).toNat)) (c - 4)) rfl rfl rfl rfl rfl (Zwi (sz := 1) (l := 4) (h := 65536 * ((l.getD 1 0).toNat) + 256 * ((l.getD 2 0).toNat) + ((l.getD 3 0).toNat) + 4) rfl rfl rfl (by omega) (by omega) (by omega) (by omega) rfl (by omega) (by omega) (by omega)) ?_
 refine Zgy (p := slv 0 4 (65536 * ((l.getD 1 0).toNat) + 256 * ((l.getD 2 0).toNat) + ((l.getD 3 0).toNat)) (c - 4)) (v := .string (Zs ((l.drop 4).take (65536 * ((l.getD 1 0).toNat) + 256 * ((l.getD 2 0).toNat) + ((l.getD 3 0).toNat))))) rfl rfl rfl (Zs5 rfl rfl rfl rfl rfl (by have := hn; omega) rfl) ?_
 refine Zbf (vs := [(0, Iv ((((l.getD 0 0).toNat) : Nat) : Int)), (1, .string (Zs ((l.drop 4).take (65536 * ((l.getD 1 0).toNat) + 256 * ((l.getD 2 0).toNat) + ((l.getD 3 0).toNat)))))]) (v := fdV (⟨((((l.getD 0 0).toNat) : Nat) : Int), (Zs ((l.drop 4).take (65536 * ((l.getD 1 0).toNat) + 256 * ((l.getD 2 0).toNat) + ((l.getD 3 0).toNat))))⟩ : Field)) rfl rfl rfl (by kernel_rfl) ?_
 refine Zd rfl rfl (Iv (65536 * ((((l.getD 1 0).toNat) : Nat) : Int) + 256 * ((((l.getD 2 0).toNat) : Nat) : Int) + ((((l.getD 3 0).toNat) : Nat) : Int))) rfl ?_
 refine Zi (vx := Iv 4) (vy := Iv (65536 * ((((l.getD 1 0).toNat) : Nat) : Int) + 256 * ((((l.getD 2 0).toNat) : Nat) : Int) + ((((l.getD 3 0).toNat) : Nat) : Int))) rfl rfl (Iv (65536 * ((((l.getD 1 0).toNat) : Nat) : Int) + 256 * ((((l.getD 2 0).toNat) : Nat) : Int) + ((((l.getD 3 0).toNat) : Nat) : Int) + 4)) rfl rfl (Zap (by omega) (by omega) (by omega)) ?_
 refine Zj (p := pt 1 0) (v := fdV (⟨((((l.getD 0 0).toNat) : Nat) : Int), (Zs ((l.drop 4).take (65536 * ((l.getD 1 0).toNat) + 256 * ((l.getD 2 0).toNat) + ((l.getD 3 0).toNat))))⟩ : Field)) (b := 1) (blk := bxB 2 (fdC (⟨((((l.getD 0 0).toNat) : Nat) : Int), (Zs ((l.drop 4).take (65536 * ((l.getD 1 0).toNat) + 256 * ((l.getD 2 0).toNat) + ((l.getD 3 0).toNat))))⟩ : Field))) (H' := [rdB l, bxB 2 (fdC (⟨((((l.getD 0 0).toNat) : Nat) : Int), (Zs ((l.drop 4).take (65536 * ((l.getD 1 0).toNat) + 256 * ((l.getD 2 0).toNat) + ((l.getD 3 0).toNat))))⟩ : Field))]) rfl rfl rfl (by kernel_rfl) (by kernel_rfl) ?_
 refine Zc rfl rfl (Iv (65536 * ((((l.getD 1 0).toNat) : Nat) : Int) + 256 * ((((l.getD 2 0).toNat) : Nat) : Int) + ((((l.getD 3 0).toNat) : Nat) : Int) + 4)) rfl (Zc rfl rfl (Iv 0) rfl ?_)
 refine Zca (by kernel_rfl) ?_
 refine Zb (Zw (Zy ?_))
 rw [show Zd5 l n = ((⟨((((l.getD 0 0).toNat) : Nat) : Int), (Zs ((l.drop 4).take (65536 * ((l.getD 1 0).toNat) + 256 * ((l.getD 2 0).toNat) + ((l.getD 3 0).toNat))))⟩ : Field), 65536 * ((((l.getD 1 0).toNat) : Nat) : Int) + 256 * ((((l.getD 2 0).toNat) : Nat) : Int) + ((((l.getD 3 0).toNat) : Nat) : Int) + 4, 0) from by unfold Zd5; rw [if_neg h1, if_neg (by rw [h2]; decide), if_neg h3, if_neg h4]]
 exact Zo (v := .tuple #[fdV (⟨((((l.getD 0 0).toNat) : Nat) : Int), (Zs ((l.drop 4).take (65536 * ((l.getD 1 0).toNat) + 256 * ((l.getD 2 0).toNat) + ((l.getD 3 0).toNat))))⟩ : Field), Iv (65536 * ((((l.getD 1 0).toNat) : Nat) : Int) + 256 * ((((l.getD 2 0).toNat) : Nat) : Int) + ((((l.getD 3 0).toNat) : Nat) : Int) + 4), Iv 0]) (by kernel_rfl) rfl rfl (by simp [Za1, rdB]) ⟨(Zeg (by kernel_rfl) rfl), rfl, rfl, trivial⟩
end Go.Flat
namespace Go.Flat
open Go.Proofs
variable {G : Glob}

def gAt (l : Bs) (o : Nat) : Field × Int × Int := Zd5 (l.drop o) (l.length - o)
def Zas (l : Bs) : Nat → Nat
  | 0 => 0
  | k + 1 => Zas l k + (gAt l (Zas l k)).2.1.toNat
def Zb6 (l : Bs) (k : Nat) : Field := (gAt l (Zas l k)).1
def Zeh (l : Bs) (k : Nat) : Int := (gAt l (Zas l k)).2.2
def Zdb (l : Bs) : Nat → Int
  | 0 => 0
  | k + 1 => (Zb6 l k).tag
def Zer (l : Bs) : Nat → List Field
  | 0 => []
  | k + 1 => Zer l k ++ [Zb6 l k]
theorem Zyl (l : Bs) (k : Nat) : Zer l (k + 1) = Zer l k ++ [Zb6 l k] := rfl
def okK (l : Bs) (k : Nat) : Prop := Zeh l k = 0 ∧ Zdb l k < (Zb6 l k).tag
def Znx (l : Bs) : Nat → Nat → Nat
  | 0, k => k
  | f + 1, k => if l.length ≤ Zas l k then k else if Zeh l k ≠ 0 then k + 1 else Znx l f (k + 1)
def Zc9 (l : Bs) : Nat := Znx l (l.length + 1) 0
theorem Zxl (l : Bs) : ∀ f k, k ≤ Znx l f k
 | 0, k => Nat.le_refl _
 | f + 1, k => by
  rw [Znx]
  split
  ·exact Nat.le_refl _
  ·split
   ·omega
   ·have := Zxl l f (k + 1); omega
theorem Zpc {l : Bs} {n : Nat} (h : (Zd5 l n).2.2 = 0) : 4 ≤ (Zd5 l n).2.1 ∧ (Zd5 l n).2.1 ≤ (n : Int) := by
 revert h
 unfold Zd5
 repeat' split
 all_goals intro h
 all_goals first | exact absurd h (by decide) | (dsimp only; omega)
theorem Zsv {l : Bs} {k : Nat} (h : Zeh l k = 0) : Zas l k + 4 ≤ Zas l (k + 1) ∧ (Zas l k ≤ l.length → Zas l (k + 1) ≤ l.length) := by
 have := Zpc (l := l.drop (Zas l k)) (n := l.length - Zas l k) h
 show Zas l k + 4 ≤ Zas l k + (gAt l (Zas l k)).2.1.toNat ∧ (Zas l k ≤ l.length → Zas l k + (gAt l (Zas l k)).2.1.toNat ≤ l.length)
 unfold gAt
 omega
theorem Zo4 {l : Bs} : ∀ k, (∀ j, j < k → okK l j) → (∀ j, j < k → Zas l j < l.length) → ∃ f, l.length + 1 ≤ f + Zas l k ∧ Znx l f k = Zc9 l ∧ Zas l k ≤ l.length
 | 0, _, _ => ⟨l.length + 1, by simp [Zas], rfl, Nat.zero_le _⟩
 | k + 1, h, ho => by
  obtain ⟨f, h1, h2, h3⟩ := Zo4 k (fun j hj => h j (by omega)) (fun j hj => ho j (by omega))
  have hk := h k (by omega)
  have hl := ho k (by omega)
  have hp := Zsv hk.1
  cases f with
  | zero => omega
  | succ f =>
   rw [Znx, if_neg (by omega), if_neg (by rw [hk.1]; simp)] at h2
   exact ⟨f, by omega, h2, hp.2 h3⟩
theorem Zku {l : Bs} : ∀ k, k ≤ Zc9 l → (∀ j, j < k → okK l j) → ∀ j, j < k → Zas l j < l.length
 | 0, _, _, j, hj => by omega
 | k + 1, hk, h, j, hj => by
  have ih := Zku k (by omega) (fun j hj => h j (by omega))
  rcases Nat.lt_or_ge j k with h1 | h1
  ·exact ih j h1
  ·obtain rfl : j = k := by omega
   obtain ⟨f, g1, g2, g3⟩ := Zo4 j (fun i hi => h i (by omega)) ih
   rcases Nat.lt_or_ge (Zas l j) l.length with h2 | h2
   ·exact h2
   ·have : Znx l f j = j := by
     cases f with
     | zero => rfl
     | succ f => rw [Znx, if_pos h2]
    omega
theorem Z1u {l : Bs} {k : Nat} (h : ∀ j, j < k → okK l j) (ho : ∀ j, j < k → Zas l j < l.length) (hk : Zas l k < l.length) : k < Zc9 l := by
 obtain ⟨f, g1, g2, g3⟩ := Zo4 k h ho
 cases f with
 | zero => omega
 | succ f =>
  rw [Znx, if_neg (by omega)] at g2
  split at g2
  ·omega
  ·have := Zxl l f (k + 1); omega
theorem Z0z {l : Bs} {k : Nat} (h : ∀ j, j < k → okK l j) (ho : ∀ j, j < k → Zas l j < l.length) (hk : l.length ≤ Zas l k) : Zc9 l = k := by
 obtain ⟨f, g1, g2, g3⟩ := Zo4 k h ho
 rw [← g2]
 cases f with
 | zero => rfl
 | succ f => rw [Znx, if_pos hk]
theorem Z29 {l : Bs} (h : ∀ k, k < Zc9 l → okK l k) : l.length ≤ Zas l (Zc9 l) := by
 rcases Nat.lt_or_ge (Zas l (Zc9 l)) l.length with h1 | h1
 ·have := Z1u h (Zku _ (Nat.le_refl _) h) h1; omega
 ·exact h1
def Zgz : Nat → Bs → Int → List Field → List Field × Int
  | 0, _, _, acc => (acc, 0)
  | f + 1, l, last, acc => if l.length = 0 then (acc, 0) else if (Zd5 l l.length).2.2 ≠ 0 then ([], (Zd5 l l.length).2.2) else if (Zd5 l l.length).1.tag ≤ last then ([], 11) else Zgz f (l.drop (Zd5 l l.length).2.1.toNat) (Zd5 l l.length).1.tag (acc ++ [(Zd5 l l.length).1])
def Zl (l : Bs) : List Field × Int := Zgz (l.length + 1) l 0 []
theorem Zsz {l : Bs} : ∀ k, (∀ j, j < k → okK l j) → (∀ j, j < k → Zas l j < l.length) → ∃ f, l.length + 1 ≤ f + Zas l k ∧ Zas l k ≤ l.length ∧ Zl l = Zgz f (l.drop (Zas l k)) (Zdb l k) (Zer l k)
 | 0, _, _ => ⟨l.length + 1, by simp [Zas], Nat.zero_le _, rfl⟩
 | k + 1, h, ho => by
  obtain ⟨f, h1, h3, h2⟩ := Zsz k (fun j hj => h j (by omega)) (fun j hj => ho j (by omega))
  have hk := h k (by omega)
  have hl := ho k (by omega)
  have hp := Zsv hk.1
  cases f with
  | zero => omega
  | succ f =>
   have e : (l.drop (Zas l k)).length = l.length - Zas l k := List.length_drop
   rw [Zgz, e, if_neg (by omega)] at h2
   have hk1 : (Zd5 (l.drop (Zas l k)) (l.length - Zas l k)).2.2 = 0 := hk.1
   have hk2 : Zdb l k < (Zd5 (l.drop (Zas l k)) (l.length - Zas l k)).1.tag := hk.2
   rw [if_neg (by rw [hk1]; simp), if_neg (by omega), List.drop_drop] at h2
   refine ⟨f, by omega, hp.2 h3, ?_⟩
   rw [h2, Zyl]
   rfl
theorem Zul {l : Bs} {k : Nat} (h : ∀ j, j < k → okK l j) (hk : k < Zc9 l) : (Zeh l k ≠ 0 → Zl l = ([], Zeh l k)) ∧ (Zeh l k = 0 → (Zb6 l k).tag ≤ Zdb l k → Zl l = ([], 11)) := by
 have ho := Zku k (by omega) h
 obtain ⟨f, h1, h3, h2⟩ := Zsz k h ho
 have hlt : Zas l k < l.length := by
  rcases Nat.lt_or_ge (Zas l k) l.length with h4 | h4
  ·exact h4
  ·have := Z0z h ho h4; omega
 cases f with
 | zero => omega
 | succ f =>
  have e : (l.drop (Zas l k)).length = l.length - Zas l k := List.length_drop
  rw [Zgz, e, if_neg (by omega)] at h2
  constructor
  ·intro he
   have he' : (Zd5 (l.drop (Zas l k)) (l.length - Zas l k)).2.2 ≠ 0 := he
   rw [if_pos he'] at h2; exact h2
  ·intro he ht
   have he' : (Zd5 (l.drop (Zas l k)) (l.length - Zas l k)).2.2 = 0 := he
   have ht' : (Zd5 (l.drop (Zas l k)) (l.length - Zas l k)).1.tag ≤ Zdb l k := ht
   rw [if_neg (by rw [he']; simp), if_pos ht'] at h2; exact h2
theorem Z16 {l : Bs} (h : ∀ k, k < Zc9 l → okK l k) : Zl l = (Zer l (Zc9 l), 0) := by
 obtain ⟨f, h1, h3, h2⟩ := Zsz _ h (Zku _ (Nat.le_refl _) h)
 have := Z29 h
 cases f with
 | zero => rw [h2]; rfl
 | succ f =>
  rw [h2, Zgz, if_pos (by rw [List.length_drop]; omega)]
theorem Zlp (l : Bs) : ∀ k, (Zer l k).length = k
 | 0 => rfl
 | k + 1 => by rw [Zer, List.length_append, Zlp l k]; rfl
end Go.Flat
namespace Go.Flat
open Go.Proofs
variable {G : Glob}
def gK (l : Bs) (k : Nat) : Nat := (gAt l (Zas l k)).2.1.toNat
def Zcn (l : Bs) : Nat → Nat
  | 0 => l.length
  | k + 1 => Zcn l k - gK l k
def Zeq (l : Bs) (c : Nat) : Nat → Nat
  | 0 => c
  | k + 1 => Zeq l c k - gK l k
theorem Zss (l : Bs) : ∀ k, Zcn l k = l.length - Zas l k
 | 0 => rfl
 | k + 1 => by
  have h1 := Zss l k
  show Zcn l k - gK l k = l.length - (Zas l k + gK l k)
  omega
theorem Zxi {l : Bs} {c : Nat} (hc : l.length ≤ c) : ∀ k, Zcn l k ≤ Zeq l c k
 | 0 => hc
 | k + 1 => by
  have h1 := Zxi hc k
  show Zcn l k - gK l k ≤ Zeq l c k - gK l k
  omega
theorem Z6w {l : Bs} {k : Nat} (h : ∀ j, j < k → okK l j) (ho : ∀ j, j < k → Zas l j < l.length) : Zas l k ≤ l.length := by
 obtain ⟨f, h1, h2, h3⟩ := Zo4 k h ho; exact h3
theorem Z7q {l : Bs} {k : Nat} (h : Zeh l k = 0) (ho : Zas l k ≤ l.length) : 4 ≤ gK l k ∧ gK l k ≤ Zcn l k := by
 have h1 := Zpc (l := l.drop (Zas l k)) (n := l.length - Zas l k) h
 have h2 := Zss l k
 show 4 ≤ (gAt l (Zas l k)).2.1.toNat ∧ (gAt l (Zas l k)).2.1.toNat ≤ Zcn l k
 unfold gAt
 omega
theorem Z3m (l : Bs) (n : Nat) : 0 ≤ (Zd5 l n).2.1 := by
 unfold Zd5
 repeat' split
 all_goals first | exact Int.le_refl _ | (dsimp only; omega)
theorem Z69 (l : Bs) (c k : Nat) (hb : l.length ≤ 1099511627776) (hlc : Zcn l k = l.length - Zas l k) (hof : Zas l k ≤ l.length) {d : Nat} (hd : Zcn l k ≤ d := by omega) : Zac Tryd.prog G 72 [slv 0 0 (Zcn l k) d] [rdB ((l.drop (Zas l k)).take (Zcn l k))] (.tuple #[fdV (Zb6 l k), Iv (gK l k : Nat), Iv (Zeh l k)]) [rdB ((l.drop (Zas l k)).take (Zcn l k))] := by
 have e : (l.drop (Zas l k)).take (Zcn l k) = l.drop (Zas l k) := List.take_of_length_le (by rw [List.length_drop]; omega)
 rw [e]
 have h := Z42 (G := G) (l.drop (Zas l k)) (Zcn l k) d (by rw [List.length_drop]; omega) hd (by omega)
 have eg : (Zd5 (l.drop (Zas l k)) (Zcn l k)).2.1 = ((gK l k : Nat) : Int) := by
  have := Z3m (l.drop (Zas l k)) (Zcn l k)
  unfold gK gAt
  rw [← hlc]; omega
 rw [eg] at h
 unfold Zb6 Zeh gAt
 rw [← hlc]; exact h
theorem Ztv (l : Bs) (c : Nat) (hc : l.length ≤ c) (hb : l.length ≤ 1099511627776) : Zw2 Tryd.prog G 71 [pt 6 0] (Zc9 l) (fun k => [fdV (Zb6 l k), Iv (Zeh l k)]) [rdB l, rfB (.slice none 0 0), bxB 1 ([Iv 0]), rfB (slv 4 0 0 0), rwB cFd (Zer l 0), bxB 1 ([Iv (Zdb l 0)]), rfB (slv 0 (Zas l 0) (Zcn l 0) (Zeq l c 0))] (fun k => [rdB l, rfB (.slice none 0 0), bxB 1 ([Iv 0]), rfB (slv 4 0 k k), rwB cFd (Zer l k), bxB 1 ([Iv (Zdb l k)]), rfB (slv 0 (Zas l k) (Zcn l k) (Zeq l c k)), bxB 2 (fdC (Zb6 l k))]) (fun k => [rdB l, rfB (.slice none 0 0), bxB 1 ([Iv 0]), rfB (slv 4 0 (k + 1) (k + 1)), rwB cFd (Zer l (k + 1)), bxB 1 ([Iv (Zdb l (k + 1))]), rfB (slv 0 (Zas l k) (Zcn l k) (Zeq l c k)), bxB 2 (fdC (Zb6 l k))]) (okK l) [rdB l, rfB (.slice none 0 0), bxB 1 ([Iv 0]), rfB (slv 4 0 (Zc9 l) (Zc9 l)), rwB cFd (Zer l (Zc9 l)), bxB 1 ([Iv (Zdb l (Zc9 l))]), rfB (slv 0 (Zas l (Zc9 l)) (Zcn l (Zc9 l)) (Zeq l c (Zc9 l)))] := by
  refine Zpe (fn := Tryd.f71) rfl rfl (nt := 27) rfl rfl rfl ?_
  intro E l' Stop hE hd hY
  refine Zlu ?_
  refine Zxp hE (fun k : Nat => [.func (.yield l') #[] #[], pt 6 0]) (fun k : Nat => [rdB l, rfB (.slice none 0 0), bxB 1 ([Iv 0]), rfB (slv 4 0 k k), rwB cFd (Zer l k), bxB 1 ([Iv (Zdb l k)]), rfB (slv 0 (Zas l k) (Zcn l k) (Zeq l c k))]) (fun k : Nat => (∀ j, j < k → okK l j) ∧ (∀ j, j < k → Zas l j < l.length)) (fun k : Nat => Zcn l k) 0 ⟨fun _ h => absurd h (by omega), fun _ h => absurd h (by omega)⟩ ?_ ?_
  · refine Z2 (n := 7) rfl ?_ (by kernel_rfl) (by kernel_rfl)
    repeat (first | exact trivial | refine ⟨.inl rfl, ?_⟩ | refine ⟨.inr ⟨rfl, rfl⟩, ?_⟩ | refine ⟨.inr ⟨congrArg (Value.int .i64) (by first | omega | (dsimp only; omega)), rfl⟩, ?_⟩)
  rintro k ⟨hks, hos⟩
  refine Z3b hE 1 (H' := [rdB l, rfB (.slice none 0 0), bxB 1 ([Iv 0]), rfB (slv 4 0 k k), rwB cFd (Zer l k), bxB 1 ([Iv (Zdb l k)]), rfB (slv 0 (Zas l k) (Zcn l k) (Zeq l c k)), hole]) rfl ?_
  have hof := Z6w hks hos
  have hlc := Zss l k
  have hcc := Zxi (c := c) hc k
  refine Zib (Zib ?_)
  refine Zmu (by kernel_rfl) ?_
  refine Zg (p := pt 6 0) (v := slv 0 (Zas l k) (Zcn l k) (Zeq l c k)) rfl rfl rfl rfl ?_
  refine Za6 (p := slv 0 (Zas l k) (Zcn l k) (Zeq l c k)) (v := Iv (((Zcn l k) : Nat) : Int)) rfl rfl rfl rfl ?_
  by_cases h1 : 0 < (((Zcn l k) : Nat) : Int)
  refine Zi (vx := Iv (((Zcn l k) : Nat) : Int)) (vy := Iv 0) rfl rfl (.bool true) rfl rfl (Zde (by omega)) ?_
  refine Za (Zx (Zxq rfl (Zn8 (Zx (Zlu (Zib ?_))))))
  refine Zmu (by kernel_rfl) ?_
  refine Zg (p := pt 6 0) (v := slv 0 (Zas l k) (Zcn l k) (Zeq l c k)) rfl rfl rfl rfl ?_
  refine Zab (e := [some (0, (Zas l k))]) (nid := 0) (Z69 (G := G) l c k hb hlc hof) (vals := [slv 0 (Zas l k) (Zcn l k) (Zeq l c k)]) (v := .tuple #[fdV (Zb6 l k), Iv (((gK l k) : Nat) : Int), Iv (Zeh l k)]) (H' := [rdB l, rfB (.slice none 0 0), bxB 1 ([Iv 0]), rfB (slv 4 0 k k), rwB cFd (Zer l k), bxB 1 ([Iv (Zdb l k)]), rfB (slv 0 (Zas l k) (Zcn l k) (Zeq l c k)), hole]) rfl rfl rfl rfl rfl rfl rfl ⟨⟨⟨rfl, by omega, rfl, by omega, by omega⟩, trivial⟩, ⟨(Z3f rfl (.inl rfl) (by omega)), trivial⟩, rfl, rfl, rfl⟩ (by kernel_rfl) (by kernel_rfl) ?_
  refine Zd rfl rfl (.tuple #[fdV (Zb6 l k), Iv (((gK l k) : Nat) : Int), Iv (Zeh l k)]) rfl (Z5 (vs := #[fdV (Zb6 l k), Iv (((gK l k) : Nat) : Int), Iv (Zeh l k)]) (v := fdV (Zb6 l k)) rfl rfl rfl rfl (Z5 (vs := #[fdV (Zb6 l k), Iv (((gK l k) : Nat) : Int), Iv (Zeh l k)]) (v := Iv (((gK l k) : Nat) : Int)) rfl rfl rfl rfl (Z5 (vs := #[fdV (Zb6 l k), Iv (((gK l k) : Nat) : Int), Iv (Zeh l k)]) (v := Iv (Zeh l k)) rfl rfl rfl rfl ?_)))
  refine Zq (b := bxB 2 (fdC (⟨0, ⟨#[]⟩⟩ : Field))) (nid := 7) (H' := [rdB l, rfB (.slice none 0 0), bxB 1 ([Iv 0]), rfB (slv 4 0 k k), rwB cFd (Zer l k), bxB 1 ([Iv (Zdb l k)]), rfB (slv 0 (Zas l k) (Zcn l k) (Zeq l c k)), bxB 2 (fdC (⟨0, ⟨#[]⟩⟩ : Field))]) rfl rfl (by kernel_rfl) (by kernel_rfl) ?_
  refine Zj (p := pt 7 0) (v := fdV (Zb6 l k)) (b := 7) (blk := bxB 2 (fdC (Zb6 l k))) (H' := [rdB l, rfB (.slice none 0 0), bxB 1 ([Iv 0]), rfB (slv 4 0 k k), rwB cFd (Zer l k), bxB 1 ([Iv (Zdb l k)]), rfB (slv 0 (Zas l k) (Zcn l k) (Zeq l c k)), bxB 2 (fdC (Zb6 l k))]) rfl rfl rfl (by kernel_rfl) (by kernel_rfl) ?_
  refine Zc rfl rfl (Iv (((gK l k) : Nat) : Int)) rfl (Zc rfl rfl (Iv (Zeh l k)) rfl (Za (Zx (Zib (Zib ?_)))))
  refine Ztp (fun w' h => ⟨w', h, rfl⟩) 3 rfl rfl rfl (by kernel_rfl) ?_
  refine Zd rfl rfl (.func (.yield l') #[] #[]) rfl ?_
  refine Zg (p := pt 7 0) (v := fdV (Zb6 l k)) rfl rfl rfl (by kernel_rfl) ?_
  refine Zd rfl rfl (Iv (Zeh l k)) rfl ?_
  refine Ze8 ?_
  show Zqv _ _ _ _ _ _ _ _ _ _ _ _ _
  unfold Zqv
  refine ⟨l', [fdV (Zb6 l k), Iv (Zeh l k)], [rdB l, rfB (.slice none 0 0), bxB 1 ([Iv 0]), rfB (slv 4 0 (k + 1) (k + 1)), rwB cFd (Zer l (k + 1)), bxB 1 ([Iv (Zdb l (k + 1))]), rfB (slv 0 (Zas l k) (Zcn l k) (Zeq l c k)), bxB 2 (fdC (Zb6 l k))], okK l k, rfl, rfl, by decide, hY k (Z1u hks hos (by omega)) hks, fun hok => ?_, ?_⟩
  have he : Zeh l k = 0 := hok.1
  have hg := Z7q he hof
  have hp := Zsv he
  refine Zhl (vx := .bool true) rfl rfl (.bool false) rfl Zdu ?_
  refine Zd rfl rfl (.bool false) rfl (Zd rfl rfl (Iv (Zeh l k)) rfl ?_)
  refine Zi (vx := Iv (Zeh l k)) (vy := Iv 0) rfl rfl (.bool false) rfl rfl (Zen (by omega)) ?_
  refine Zp rfl rfl (.bool false) rfl (Za (Zx (Zlv rfl (Zn8 (Zx ?_)))))
  refine Zmu (by kernel_rfl) ?_
  refine Zg (p := pt 6 0) (v := slv 0 (Zas l k) (Zcn l k) (Zeq l c k)) rfl rfl rfl rfl ?_
  refine Zd rfl rfl (Iv (((gK l k) : Nat) : Int)) rfl ?_
  refine Zci (p := slv 0 (Zas l k) (Zcn l k) (Zeq l c k)) (vl := some (Iv (((gK l k) : Nat) : Int))) (vh := none) (v := slv 0 ((Zas l k) + (gK l k)) ((Zcn l k) - (gK l k)) ((Zeq l c k) - (gK l k))) rfl rfl rfl rfl rfl (Zhn (sz := 1) (l := (gK l k)) rfl rfl rfl (by omega) (by omega) (by omega) rfl (by omega) (by omega) (by omega)) ?_
  refine Zj (p := pt 6 0) (v := slv 0 ((Zas l k) + (gK l k)) ((Zcn l k) - (gK l k)) ((Zeq l c k) - (gK l k))) (b := 6) (blk := rfB (slv 0 ((Zas l k) + (gK l k)) ((Zcn l k) - (gK l k)) ((Zeq l c k) - (gK l k)))) (H' := [rdB l, rfB (.slice none 0 0), bxB 1 ([Iv 0]), rfB (slv 4 0 (k + 1) (k + 1)), rwB cFd (Zer l (k + 1)), bxB 1 ([Iv (Zdb l (k + 1))]), rfB (slv 0 ((Zas l k) + (gK l k)) ((Zcn l k) - (gK l k)) ((Zeq l c k) - (gK l k))), bxB 2 (fdC (Zb6 l k))]) rfl rfl rfl (by kernel_rfl) (by kernel_rfl) ?_
  refine Za (Zag ?_)
  refine Zx ⟨(k + 1), ⟨fun j hj => by rcases Nat.lt_or_ge j k with h | h; exact hks j h; obtain rfl : j = k := (by omega); exact hok, fun j hj => by rcases Nat.lt_or_ge j k with h | h; exact hos j h; obtain rfl : j = k := (by omega); omega⟩, by show Zcn l k - gK l k < Zcn l k; omega, ?_⟩
  refine Z2 (n := 7) rfl ?_ (by kernel_rfl) (by kernel_rfl)
  repeat (first | exact trivial | refine ⟨.inl rfl, ?_⟩ | refine ⟨.inr ⟨rfl, rfl⟩, ?_⟩ | refine ⟨.inr ⟨congrArg (Value.int .i64) (by first | omega | (dsimp only; omega)), rfl⟩, ?_⟩)
  refine Zhl (vx := .bool false) rfl rfl (.bool true) rfl Zdu ?_
  refine Zd rfl rfl (.bool true) rfl (Zn rfl rfl (Zn rfl rfl (Zp rfl rfl (.bool true) rfl (Za (Zx (Zkp rfl (Zmt (Zbw (Zbc (Zbw (Zbc ?_)))))))))))
  exact ⟨.inr rfl⟩
  refine Zi (vx := Iv (((Zcn l k) : Nat) : Int)) (vy := Iv 0) rfl rfl (.bool false) rfl rfl (Zcw (by omega)) ?_
  refine Za (Zx (Zlv rfl (Zxo (Zav (Zav (Za2 rfl ?_))))))
  have e := Z0z hks hos (by omega)
  exact ⟨⟨.inl rfl, fun j hj => hks j (by omega), _, by rw [e]; exact Z2 (l := []) (n := 7) rfl trivial (by kernel_rfl) (by kernel_rfl)⟩⟩
end Go.Flat
namespace Go.Flat
open Go.Proofs
variable {G : Glob}
theorem Zxm (l : Bs) : ∀ f k, Znx l f k ≤ k + f
 | 0, k => Nat.le_refl _
 | f + 1, k => by
  rw [Znx]
  split
  ·omega
  ·split
   ·omega
   ·have := Zxm l f (k + 1); omega
theorem Zyw {l : Bs} {k : Nat} (hk : k < Zc9 l) (hb : l.length ≤ 1099511627776) : k ≤ 1099511627776 := by
 have := Zxm l (l.length + 1) 0
 unfold Zc9 at hk
 omega
theorem Zy2 (l : Bs) (n c : Nat) (hn : l.length = n) (hc : n ≤ c) : Zac Tryd.prog G 66 [slv 0 0 n c] [rdB l] (.func (.func 71) #[] #[pt 1 0]) [rdB l, rfB (slv 0 0 n c)] := by
 refine Zb8 (fn := Tryd.f66) (nt := 4) rfl rfl rfl rfl ?_
 refine Zah 1 (H' := [rdB l, hole]) rfl ?_
 refine Ze (Zf ?_)
 refine Zdc (v := slv 0 0 n c) (b := rfB (slv 0 0 n c)) (nid := 1) (H' := [rdB l, rfB (slv 0 0 n c)]) rfl rfl rfl (by kernel_rfl) (by kernel_rfl) ?_
 refine Zc rfl rfl .nilFunc rfl (Za (Zb (Ze (Zf ?_))))
 refine Zfq (vs := []) (ws := [pt 1 0]) rfl rfl rfl rfl rfl ?_
 refine Zc rfl rfl (.func (.func 71) #[] #[pt 1 0]) rfl (Za (Zb (Zw (Zy ?_))))
 exact Zdg [0, 1] (v := .func (.func 71) #[] #[pt 1 0]) rfl (by kernel_rfl) rfl rfl (by decide) (by simp [Za1, rdB, rfB, Zhk, Zdz]) ⟨by simp [Zdr, Zck, Zkd, idE], by kernel_rfl⟩
theorem Z21 (l : Bs) (c : Nat) (hc : l.length ≤ c) (hb : l.length ≤ 1099511627776) : Zac Tryd.prog G 54 [slv 0 0 l.length c] [rdB l] (.tuple #[slv 1 0 (Zl l).1.length (Zl l).1.length, Iv (Zl l).2]) [rdB l, rwB cFd (Zl l).1] := by
  refine Zac.introM (fn := Tryd.f54) rfl rfl (nt := 30) rfl rfl ?_
  refine Zgu (Zia ?_)
  refine Zn5 6 (H' := [rdB l, hole, hole, hole, hole, hole, hole]) rfl ?_
  refine Zcr (by kernel_rfl) ?_
  refine Zq (b := rfB (.slice none 0 0)) (nid := 1) (H' := [rdB l, rfB (.slice none 0 0), hole, hole, hole, hole, hole]) rfl rfl (by kernel_rfl) (by kernel_rfl) ?_
  refine Zq (b := bxB 1 ([Iv 0])) (nid := 2) (H' := [rdB l, rfB (.slice none 0 0), bxB 1 ([Iv 0]), hole, hole, hole, hole]) rfl rfl (by kernel_rfl) (by kernel_rfl) ?_
  refine Za (Zx (Zgu (Zia ?_)))
  refine Zcr (by kernel_rfl) ?_
  refine Zq (b := rfB (.slice none 0 0)) (nid := 3) (H' := [rdB l, rfB (.slice none 0 0), bxB 1 ([Iv 0]), rfB (.slice none 0 0), hole, hole, hole]) rfl rfl (by kernel_rfl) (by kernel_rfl) ?_
  refine Za (Zx (Zgu (Zia ?_)))
  refine Zn7 (Zb2.nilCell (k := 3) (j := 0) (b := 4) true 2 rfl (by decide) rfl (by show 0 < 1; decide) rfl rfl) ?_
  refine Zcr (by kernel_rfl) ?_
  refine Zq (b := bxB 1 ([Iv 0])) (nid := 5) (H' := [rdB l, rfB (.slice none 0 0), bxB 1 ([Iv 0]), rfB (slv 4 0 0 0), rwB cFd [], bxB 1 ([Iv 0]), hole]) rfl rfl (by kernel_rfl) (by kernel_rfl) ?_
  refine Zj (p := pt 5 0) (v := Iv 0) (b := 5) (blk := bxB 1 ([Iv 0])) (H' := [rdB l, rfB (.slice none 0 0), bxB 1 ([Iv 0]), rfB (slv 4 0 0 0), rwB cFd [], bxB 1 ([Iv 0]), hole]) rfl rfl rfl (by kernel_rfl) (by kernel_rfl) ?_
  refine Za (Zx (Zgu (Zgu (Zia ?_))))
  refine Zcr (by kernel_rfl) ?_
  refine Zd rfl rfl (slv 0 0 l.length c) rfl ?_
  refine Zab (e := [some (0, 0)]) (nid := 6) (Zy2 (G := G) l l.length c rfl hc) (vals := [slv 0 0 l.length c]) (v := .func (.func 71) #[] #[pt 6 0]) (H' := [rdB l, rfB (.slice none 0 0), bxB 1 ([Iv 0]), rfB (slv 4 0 0 0), rwB cFd [], bxB 1 ([Iv 0]), rfB (slv 0 0 l.length c)]) rfl rfl rfl rfl rfl rfl rfl ⟨⟨⟨rfl, rfl, rfl, by omega, by omega⟩, trivial⟩, ⟨(Zsi rfl), trivial⟩, rfl, rfl, rfl⟩ (by kernel_rfl) (by kernel_rfl) ?_
  refine Za (Zx ?_)
  refine Ztm (lbs := #[pt 6 0]) (iter := Ztv (G := G) l c hc hb) rfl rfl rfl (fun _ _ => rfl) (by kernel_rfl) ?_ ?_
  · intro lp k hk hks
    have hkb : k ≤ 1099511627776 := Zyw hk hb
    refine Zn5 3 (H' := [rdB l, rfB (.slice none 0 0), bxB 1 ([Iv 0]), rfB (slv 4 0 k k), rwB cFd (Zer l k), bxB 1 ([Iv (Zdb l k)]), rfB (slv 0 (Zas l k) (Zcn l k) (Zeq l c k)), bxB 2 (fdC (Zb6 l k)), hole, hole, hole]) rfl ?_
    refine Ze7 ?_
    refine Zcr (by kernel_rfl) ?_
    refine Zq (b := bxB 2 (fdC (⟨0, ⟨#[]⟩⟩ : Field))) (nid := 8) (H' := [rdB l, rfB (.slice none 0 0), bxB 1 ([Iv 0]), rfB (slv 4 0 k k), rwB cFd (Zer l k), bxB 1 ([Iv (Zdb l k)]), rfB (slv 0 (Zas l k) (Zcn l k) (Zeq l c k)), bxB 2 (fdC (Zb6 l k)), bxB 2 (fdC (⟨0, ⟨#[]⟩⟩ : Field)), hole, hole]) rfl rfl (by kernel_rfl) (by kernel_rfl) ?_
    refine Zj (p := pt 8 0) (v := fdV (Zb6 l k)) (b := 8) (blk := bxB 2 (fdC (Zb6 l k))) (H' := [rdB l, rfB (.slice none 0 0), bxB 1 ([Iv 0]), rfB (slv 4 0 k k), rwB cFd (Zer l k), bxB 1 ([Iv (Zdb l k)]), rfB (slv 0 (Zas l k) (Zcn l k) (Zeq l c k)), bxB 2 (fdC (Zb6 l k)), bxB 2 (fdC (Zb6 l k)), hole, hole]) rfl rfl rfl (by kernel_rfl) (by kernel_rfl) ?_
    refine Za (Zx ?_)
    refine Zcr (by kernel_rfl) ?_
    refine Zc rfl rfl (Iv (Zeh l k)) rfl (Za (Zx (Zto (Ze7 (Ze7 ?_)))))
    refine Zcr (by kernel_rfl) ?_
    refine Zd rfl rfl (Iv (Zeh l k)) rfl ?_
    by_cases h1 : (Zeh l k) = 0
    refine Zi (vx := Iv (Zeh l k)) (vy := Iv 0) rfl rfl (.bool true) rfl rfl (Zd2 (by omega)) ?_
    refine Zd rfl rfl (.bool true) rfl ?_
    refine Zh (b := 8) (o := 0) (n := 0) (o' := 0) rfl rfl rfl rfl rfl ?_
    refine Zg (p := pt 8 0) (v := Iv ((Zb6 l k).tag)) rfl rfl rfl (by kernel_rfl) ?_
    refine Zg (p := pt 5 0) (v := Iv (Zdb l k)) rfl rfl rfl (by kernel_rfl) ?_
    by_cases h2 : ((Zb6 l k).tag) ≤ (Zdb l k)
    refine Zi (vx := Iv ((Zb6 l k).tag)) (vy := Iv (Zdb l k)) rfl rfl (.bool true) rfl rfl (Zre (by omega)) ?_
    refine Zp rfl rfl (.bool true) rfl (Za (Zx (Zkp rfl ?_)))
    refine Zcr (by kernel_rfl) ?_
    refine Zc rfl rfl (Iv 11) rfl (Za (Zx (Ze7 (Ze7 ?_))))
    refine Zcr (by kernel_rfl) ?_
    refine Zd rfl rfl (Iv 11) rfl ?_
    refine Zi (vx := Iv 11) (vy := Iv 0) rfl rfl (.bool true) rfl rfl (Zke (by omega)) ?_
    refine Za (Zx (Zkp rfl (Ze7 ?_)))
    refine Zcr (by kernel_rfl) ?_
    refine Zd rfl rfl (Iv 11) rfl ?_
    refine Zj (p := pt 1 0) (v := .slice none 0 0) (b := 1) (blk := rfB (.slice none 0 0)) (H' := [rdB l, rfB (.slice none 0 0), bxB 1 ([Iv 0]), rfB (slv 4 0 k k), rwB cFd (Zer l k), bxB 1 ([Iv (Zdb l k)]), rfB (slv 0 (Zas l k) (Zcn l k) (Zeq l c k)), bxB 2 (fdC (Zb6 l k)), bxB 2 (fdC (Zb6 l k)), hole, hole]) rfl rfl rfl (by kernel_rfl) (by kernel_rfl) ?_
    refine Zj (p := pt 2 0) (v := Iv 11) (b := 2) (blk := bxB 1 ([Iv 11])) (H' := [rdB l, rfB (.slice none 0 0), bxB 1 ([Iv 11]), rfB (slv 4 0 k k), rwB cFd (Zer l k), bxB 1 ([Iv (Zdb l k)]), rfB (slv 0 (Zas l k) (Zcn l k) (Zeq l c k)), bxB 2 (fdC (Zb6 l k)), bxB 2 (fdC (Zb6 l k)), hole, hole]) rfl rfl rfl (by kernel_rfl) (by kernel_rfl) ?_
    refine Za (Zx ?_)
    refine Zn7 (Zb2.nilCell (k := 1) (j := 0) (b := 9) true 2 rfl (by decide) rfl (by show 0 < 1; decide) rfl rfl) ?_
    refine Zmt (Zbw (Zbc ?_))
    refine ⟨?_⟩
    show ∃ v e, EndOK _ _ _ _ _ _ _ v e
    rw [show Zl l = ([], 11) from (Zul hks hk).2 (by omega) (by omega)]
    exact Zdg [0, 9] (v := .tuple #[slv 9 0 0 0, Iv 11]) (by kernel_rfl) (by kernel_rfl) rfl rfl (by decide) (by simp [Za1, rdB, rwB, cFd]) ⟨⟨rfl, rfl, rfl, by first | omega | exact Nat.le_refl _ | exact Nat.zero_le _ | (dsimp only; omega), by first | omega | exact Nat.le_refl _ | exact Nat.zero_le _ | (dsimp only; omega)⟩, rfl, trivial⟩
    refine Zi (vx := Iv ((Zb6 l k).tag)) (vy := Iv (Zdb l k)) rfl rfl (.bool false) rfl rfl (Zrd (by omega)) ?_
    refine Zp rfl rfl (.bool false) rfl (Za (Zx (Zj8 rfl (Zn6 (Zx (Ze7 (Ze7 ?_)))))))
    refine Zcr (by kernel_rfl) ?_
    refine Zd rfl rfl (Iv (Zeh l k)) rfl ?_
    refine Zi (vx := Iv (Zeh l k)) (vy := Iv 0) rfl rfl (.bool false) rfl rfl (Zen (by omega)) ?_
    refine Za (Zx (Zj8 rfl (Zn6 (Zx (Ze7 ?_)))))
    refine Zcr (by kernel_rfl) ?_
    refine Zg (p := pt 3 0) (v := slv 4 0 k k) rfl rfl rfl rfl ?_
    refine Zg (p := pt 8 0) (v := fdV (Zb6 l k)) rfl rfl rfl (by kernel_rfl) ?_
    refine Zdd (vs := [(0, fdV (Zb6 l k))]) (v := slv 9 0 1 1) (blk := rwB cFd [(Zb6 l k)]) (nid := 9) (H' := [rdB l, rfB (.slice none 0 0), bxB 1 ([Iv 0]), rfB (slv 4 0 k k), rwB cFd (Zer l k), bxB 1 ([Iv (Zdb l k)]), rfB (slv 0 (Zas l k) (Zcn l k) (Zeq l c k)), bxB 2 (fdC (Zb6 l k)), bxB 2 (fdC (Zb6 l k)), rwB cFd [(Zb6 l k)], hole]) rfl rfl rfl (by kernel_rfl) (by kernel_rfl) ?_
    have hl1 : ((Zer l k) ++ [(Zb6 l k)]).length = k + 1 := by have := (Zlp l k); have := (rfl : _ = 1); first | (rw [List.length_append]; omega) | (simp; omega) | simp
    refine Za5 (p := slv 4 0 k k) (q := slv 9 0 1 1) (v := slv 4 0 (k + 1) (k + 1)) (b := 4) (blk := rwB cFd ((Zer l k) ++ [(Zb6 l k)])) (H' := [rdB l, rfB (.slice none 0 0), bxB 1 ([Iv 0]), rfB (dead), rwB cFd ((Zer l k) ++ [(Zb6 l k)]), bxB 1 ([Iv (Zdb l k)]), rfB (slv 0 (Zas l k) (Zcn l k) (Zeq l c k)), bxB 2 (fdC (Zb6 l k)), bxB 2 (fdC (Zb6 l k)), rwB cFd [(Zb6 l k)], hole]) rfl rfl rfl (.inl ⟨_, rfl⟩) rfl rfl (Zkm cFd (by_ := 24) (k := 1) (n' := k + 1) (ms := [(Zb6 l k)]) (fun _ => rfl) rfl rfl (by kernel_rfl) rfl rfl (by have := (Zlp l k); omega) (by omega) (by decide) (by omega)) rfl (by kernel_rfl) ?_
    refine Zj (p := pt 3 0) (v := slv 4 0 (k + 1) (k + 1)) (b := 3) (blk := rfB (slv 4 0 (k + 1) (k + 1))) (H' := [rdB l, rfB (.slice none 0 0), bxB 1 ([Iv 0]), rfB (slv 4 0 (k + 1) (k + 1)), rwB cFd ((Zer l k) ++ [(Zb6 l k)]), bxB 1 ([Iv (Zdb l k)]), rfB (slv 0 (Zas l k) (Zcn l k) (Zeq l c k)), bxB 2 (fdC (Zb6 l k)), bxB 2 (fdC (Zb6 l k)), rwB cFd [(Zb6 l k)], hole]) rfl rfl rfl (by kernel_rfl) (by kernel_rfl) ?_
    refine Za (Zx ?_)
    refine Zcr (by kernel_rfl) ?_
    refine Zh (b := 8) (o := 0) (n := 0) (o' := 0) rfl rfl rfl rfl rfl ?_
    refine Zg (p := pt 8 0) (v := Iv ((Zb6 l k).tag)) rfl rfl rfl (by kernel_rfl) ?_
    refine Zj (p := pt 5 0) (v := Iv ((Zb6 l k).tag)) (b := 5) (blk := bxB 1 ([Iv ((Zb6 l k).tag)])) (H' := [rdB l, rfB (.slice none 0 0), bxB 1 ([Iv 0]), rfB (slv 4 0 (k + 1) (k + 1)), rwB cFd ((Zer l k) ++ [(Zb6 l k)]), bxB 1 ([Iv ((Zb6 l k).tag)]), rfB (slv 0 (Zas l k) (Zcn l k) (Zeq l c k)), bxB 2 (fdC (Zb6 l k)), bxB 2 (fdC (Zb6 l k)), rwB cFd [(Zb6 l k)], hole]) rfl rfl rfl (by kernel_rfl) (by kernel_rfl) ?_
    refine Za (Zag ?_)
    exact ⟨⟨⟨by omega, by omega⟩, _, Z2 (l := []) (n := 8) rfl trivial (by kernel_rfl) (by kernel_rfl)⟩⟩
    refine Zi (vx := Iv (Zeh l k)) (vy := Iv 0) rfl rfl (.bool false) rfl rfl (Zfc (by omega)) ?_
    refine Zd rfl rfl (.bool false) rfl (Zn rfl rfl (Zn rfl rfl (Zn rfl rfl (Zn rfl rfl (Zp rfl rfl (.bool false) rfl (Za (Zx (Zj8 rfl (Zn6 (Zx (Ze7 (Ze7 ?_))))))))))))
    refine Zcr (by kernel_rfl) ?_
    refine Zd rfl rfl (Iv (Zeh l k)) rfl ?_
    refine Zi (vx := Iv (Zeh l k)) (vy := Iv 0) rfl rfl (.bool true) rfl rfl (Zke (by omega)) ?_
    refine Za (Zx (Zkp rfl (Ze7 ?_)))
    refine Zcr (by kernel_rfl) ?_
    refine Zd rfl rfl (Iv (Zeh l k)) rfl ?_
    refine Zj (p := pt 1 0) (v := .slice none 0 0) (b := 1) (blk := rfB (.slice none 0 0)) (H' := [rdB l, rfB (.slice none 0 0), bxB 1 ([Iv 0]), rfB (slv 4 0 k k), rwB cFd (Zer l k), bxB 1 ([Iv (Zdb l k)]), rfB (slv 0 (Zas l k) (Zcn l k) (Zeq l c k)), bxB 2 (fdC (Zb6 l k)), bxB 2 (fdC (Zb6 l k)), hole, hole]) rfl rfl rfl (by kernel_rfl) (by kernel_rfl) ?_
    refine Zj (p := pt 2 0) (v := Iv (Zeh l k)) (b := 2) (blk := bxB 1 ([Iv (Zeh l k)])) (H' := [rdB l, rfB (.slice none 0 0), bxB 1 ([Iv (Zeh l k)]), rfB (slv 4 0 k k), rwB cFd (Zer l k), bxB 1 ([Iv (Zdb l k)]), rfB (slv 0 (Zas l k) (Zcn l k) (Zeq l c k)), bxB 2 (fdC (Zb6 l k)), bxB 2 (fdC (Zb6 l k)), hole, hole]) rfl rfl rfl (by kernel_rfl) (by kernel_rfl) ?_
    refine Za (Zx ?_)
    refine Zn7 (Zb2.nilCell (k := 1) (j := 0) (b := 9) true 2 rfl (by decide) rfl (by show 0 < 1; decide) rfl rfl) ?_
    refine Zmt (Zbw (Zbc ?_))
    refine ⟨?_⟩
    show ∃ v e, EndOK _ _ _ _ _ _ _ v e
    rw [show Zl l = ([], (Zeh l k)) from (Zul hks hk).1 (by omega)]
    exact Zdg [0, 9] (v := .tuple #[slv 9 0 0 0, Iv (Zeh l k)]) (by kernel_rfl) (by kernel_rfl) rfl rfl (by decide) (by simp [Za1, rdB, rwB, cFd]) ⟨⟨rfl, rfl, rfl, by first | omega | exact Nat.le_refl _ | exact Nat.zero_le _ | (dsimp only; omega), by first | omega | exact Nat.le_refl _ | exact Nat.zero_le _ | (dsimp only; omega)⟩, rfl, trivial⟩
  intro hall
  show CW none _ _ _ _ _ _ _
  refine Ze7 ?_
  refine Zcr (by kernel_rfl) ?_
  refine Zg (p := pt 3 0) (v := slv 4 0 (Zc9 l) (Zc9 l)) rfl rfl rfl rfl ?_
  refine Zj (p := pt 1 0) (v := slv 4 0 (Zc9 l) (Zc9 l)) (b := 1) (blk := rfB (slv 4 0 (Zc9 l) (Zc9 l))) (H' := [rdB l, rfB (slv 4 0 (Zc9 l) (Zc9 l)), bxB 1 ([Iv 0]), rfB (slv 4 0 (Zc9 l) (Zc9 l)), rwB cFd (Zer l (Zc9 l)), bxB 1 ([Iv (Zdb l (Zc9 l))]), rfB (slv 0 (Zas l (Zc9 l)) (Zcn l (Zc9 l)) (Zeq l c (Zc9 l)))]) rfl rfl rfl (by kernel_rfl) (by kernel_rfl) ?_
  refine Zj (p := pt 2 0) (v := Iv 0) (b := 2) (blk := bxB 1 ([Iv 0])) (H' := [rdB l, rfB (slv 4 0 (Zc9 l) (Zc9 l)), bxB 1 ([Iv 0]), rfB (slv 4 0 (Zc9 l) (Zc9 l)), rwB cFd (Zer l (Zc9 l)), bxB 1 ([Iv (Zdb l (Zc9 l))]), rfB (slv 0 (Zas l (Zc9 l)) (Zcn l (Zc9 l)) (Zeq l c (Zc9 l)))]) rfl rfl rfl (by kernel_rfl) (by kernel_rfl) ?_
  refine Za (Zx (Zmt (Zbw (Zy ?_))))
  rw [show Zl l = (Zer l (Zc9 l), 0) from Z16 hall]
  rw [show (Zer l (Zc9 l), (0 : Int)).1.length = Zc9 l from Zlp _ _]
  exact Zdg [0, 4] (v := .tuple #[slv 4 0 (Zc9 l) (Zc9 l), Iv 0]) rfl (by kernel_rfl) rfl rfl (by decide) (by simp [Za1, rdB, rwB, cFd]) ⟨⟨rfl, rfl, rfl, by first | omega | exact Nat.le_refl _ | exact Nat.zero_le _ | (dsimp only; omega), by first | omega | exact Nat.le_refl _ | exact Nat.zero_le _ | (dsimp only; omega)⟩, rfl, trivial⟩
end Go.Flat
