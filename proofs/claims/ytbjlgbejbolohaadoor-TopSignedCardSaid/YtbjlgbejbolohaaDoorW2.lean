/- Walks. -/
import Derived.Test.YtbjlgbejbolohaaDoorRef
import Derived.Test.YtbjlgbejbolohaaDoorFlatJ
import Derived.Test.YtbjlgbejbolohaaDoorFlatI
set_option linter.unusedVariables false
set_option linter.unusedSimpArgs false
set_option maxRecDepth 20000
namespace Go.Flat
open Go.Proofs
variable {G : Glob}
def cDg : Cod D := ⟨fun d => Zaa w8 32 d, 32, fun _ => rfl, by decide⟩
theorem Zsw (n : Nat) : pcF n ≤ n := by rw [← Zg4]; exact Zoc n
theorem Zzc {kk : Nat → BitVec 32} {R Q : List D} {j q i1 i2 : Nat} (hQ : Q = Zbg kk j R) (h0 : Q.length = i1 + 2) (h1 : i1 + 1 = i2) (hq : q = i1) : Q.take q ++ [Zba kk (Q.getD i1 d0) (Q.getD i2 d0)] = Zbg kk (j + 1) R := by
 subst hq; subst h1
 rw [Zbg, ← hQ]
 unfold Zgx
 rw [h0]; rfl
theorem Zqu (P : List D) (s m c : Nat) (hm : P.length = m) (hc : m ≤ c) (hs : s ≤ 100000) (hp : m = pcF s) : Zac Tryd.prog G 19 [mxV ([Iv (s : Nat), slv 0 0 m c])] [dsR P] (Iv 0) [dsR P] := by
 have hml : m ≤ 100000 := by have := Zsw s; omega
 refine Zb8 (fn := Tryd.f19) (nt := 21) rfl rfl rfl rfl ?_
 refine Zah 1 (H' := [dsR P, hole]) rfl ?_
 refine Ze (Zf ?_)
 refine Zdc (v := mxV ([Iv (s : Nat), slv 0 0 m c])) (b := mxB 2 ([Iv (s : Nat), slv 0 0 m c])) (nid := 1) (H' := [dsR P, mxB 2 ([Iv (s : Nat), slv 0 0 m c])]) rfl rfl rfl (by kernel_rfl) (by kernel_rfl) ?_
 refine Zc rfl rfl (Iv 0) rfl (Za (Zb (Ze (Ze ?_))))
 refine Zfs (by kernel_rfl) ?_
 refine Zh (b := 1) (o := 0) (n := 0) (o' := 0) rfl rfl rfl rfl rfl ?_
 refine Zg (p := pt 1 0) (v := Iv (s : Nat)) rfl rfl rfl (by kernel_rfl) ?_
 refine Zi (vx := Iv (s : Nat)) (vy := Iv 0) rfl rfl (.bool false) rfl rfl (Zbv (by omega)) ?_
 refine Zd rfl rfl (.bool false) rfl ?_
 refine Zh (b := 1) (o := 0) (n := 0) (o' := 0) rfl rfl rfl rfl rfl ?_
 refine Zg (p := pt 1 0) (v := Iv (s : Nat)) rfl rfl rfl (by kernel_rfl) ?_
 refine Zi (vx := Iv (s : Nat)) (vy := Iv 100000) rfl rfl (.bool false) rfl rfl (Zcw (by omega)) ?_
 refine Zp rfl rfl (.bool false) rfl (Zd rfl rfl (.bool false) rfl ?_)
 refine Zh (b := 1) (o := 0) (n := 1) (o' := 1) rfl rfl rfl rfl rfl ?_
 refine Zg (p := pt 1 1) (v := slv 0 0 m c) rfl rfl rfl (by kernel_rfl) ?_
 refine Za6 (p := slv 0 0 m c) (v := Iv (m : Nat)) rfl rfl rfl rfl ?_
 refine Zh (b := 1) (o := 0) (n := 0) (o' := 0) rfl rfl rfl rfl rfl ?_
 refine Zg (p := pt 1 0) (v := Iv (s : Nat)) rfl rfl rfl (by kernel_rfl) ?_
 refine Zcc (w := Iv (s : Nat)) (v := w64 (BitVec.ofInt 64 (s : Nat))) rfl rfl rfl (Zms rfl rfl rfl) ?_
 refine Zv (Z45 (G := G) (s : Nat) s rfl (by omega)) (vals := [w64 (BitVec.ofInt 64 (s : Nat))]) (res' := Iv (((pcF s) : Nat) : Int)) rfl rfl rfl rfl rfl rfl ?_
 refine Zi (vx := Iv (m : Nat)) (vy := Iv (((pcF s) : Nat) : Int)) rfl rfl (.bool false) rfl rfl (Zen (by omega)) ?_
 refine Zp rfl rfl (.bool false) rfl ?_
 refine Zfg (Zgb [[], [0], [0, 1], [0, 1, 2], [0, 1, 2, 3], [0, 1, 2, 3, 4], [0, 1, 2, 3, 4, 5], [0, 1, 2, 3, 4, 5, 6], [0, 1, 2, 3, 4, 5, 6, 7], [0, 1, 2, 3, 4, 5, 6, 7, 8], [0, 1, 2, 3, 4, 5, 6, 7, 8, 9], [0, 1, 2, 3, 4, 5, 6, 7, 8, 9, 10], [0, 1, 2, 3, 4, 5, 6, 7, 8], [0, 1, 2, 3, 4, 5, 6, 7, 8, 12], [0, 1, 2, 3, 4, 5, 6, 7, 8, 12, 13], [0, 1, 2, 3, 4, 5, 6, 7, 8, 12, 13, 14], [0, 1, 2, 3, 4, 5, 6, 7, 8, 9, 10, 11, 12, 13, 14, 15], [0, 1, 2, 3, 4, 5, 6, 7, 8, 9, 10, 11, 12, 13, 14, 15, 16]] (by kernel_rfl) (by kernel_rfl)) ?_
 refine Zb (Zr rfl (Z0 (Zb (Ze (Zf (Zc rfl rfl (Iv 0) rfl (Za (Zb (Zw (Zy ?_))))))))))
 exact Zo (v := Iv 0) rfl rfl rfl (by kernel_rfl) rfl
theorem Zyg (l : List D) (n c : Nat) (hn : l.length = n) (hc : n ≤ c) (hb : n ≤ 1048576) : Zac Tryd.prog G 20 [slv 0 0 n c] [dsR l] (slv 1 0 n n) [dsR l, dsB l] := by
  refine Zb8 (fn := Tryd.f20) (nt := 8) rfl rfl rfl rfl ?_
  refine Zah 2 (H' := [dsR l, hole, hole]) rfl ?_
  refine Ze (Zf (Zc rfl rfl (.slice none 0 0) rfl (Za (Zb (Ze ?_)))))
  refine Zyt rfl rfl rfl rfl (fun hn0 => ?_) ?_
  · subst hn0
    obtain rfl : l = [] := List.eq_nil_of_length_eq_zero hn
    refine Ze (Zf (Zd rfl rfl (.slice none 0 0) rfl ?_))
    refine Zi (vx := .slice none 0 0) (vy := .slice none 0 0) rfl rfl (.bool true) rfl rfl (by kernel_rfl) ?_
    refine Za (Zb (Zu rfl (Ze (Zf (Zc rfl rfl (.slice none 0 0) rfl (Za (Zb ?_)))))))
    refine Zc8 (Zb2.nilTmp (i := 2) (b := 1) true 32 rfl (by decide) rfl) ?_
    refine Zw (Zaj (Zy ?_))
    exact Zdg [0, 1] (v := slv 1 0 0 0) rfl (by kernel_rfl) rfl rfl (by decide) (by simp [Za1, dsB, dsR]) ⟨rfl, rfl, rfl, by first | omega | exact Nat.le_refl _ | exact Nat.zero_le _ | (dsimp only; omega), by first | omega | exact Nat.le_refl _ | exact Nat.zero_le _ | (dsimp only; omega)⟩
  refine Zr rfl (Z0 (Zb (Ze (Zf ?_))))
  refine Z62 (v := slv 1 0 0 0) (blk := dsB []) (nid := 1) (H' := [dsR l, dsB [], hole]) rfl rfl (by kernel_rfl) (by kernel_rfl) ?_
  refine Zd rfl rfl (slv 0 0 n c) rfl ?_
  have hl1 : ([] ++ l).length = n := by have := hn; first | (rw [List.length_append]; omega) | (rw [List.length_append, List.length_take]; omega) | (simp; omega) | simp
  refine Za5 (p := slv 1 0 0 0) (q := slv 0 0 n c) (v := slv 1 0 n n) (b := 1) (blk := dsB ([] ++ l)) (H' := [dsR l, dsB ([] ++ l), hole]) rfl rfl rfl (.inl ⟨_, rfl⟩) rfl rfl (Zkm cDg (by_ := 32) (k := n) (n' := n) (ms := l) (fun _ => rfl) rfl rfl (Z2l cDg rfl rfl (by have := hn; omega)) rfl rfl rfl (by omega) (by decide) (by omega)) rfl (by kernel_rfl) ?_
  refine Zc rfl rfl (slv 1 0 n n) rfl (Za (Zb (Zw (Zy ?_))))
  exact Zdg [0, 1] (v := slv 1 0 n n) rfl (by kernel_rfl) rfl rfl (by decide) (by simp [Za1, dsB, dsR]) ⟨rfl, rfl, rfl, by first | omega | exact Nat.le_refl _ | exact Nat.zero_le _ | (dsimp only; omega), by first | omega | exact Nat.le_refl _ | exact Nat.zero_le _ | (dsimp only; omega)⟩
theorem Z47 (kk : Nat → BitVec 32) (hG : G 0 = some (Zaa w32 64 kk)) (hG1 : G 2 = some (Zaa u8N 64 dbF)) (P : List D) (s m : Nat) (y : D) (hm : P.length = m) (hs : s ≤ 99999) (hp : m = pcF s) : Zac Tryd.prog G 21 [pt 0 0, dgV y] [mxB 2 ([Iv (s : Nat), slv 1 0 m m]), dsB P] (.tuple #[]) [mxB 2 ([Iv ((s : Nat) + 1), slv 1 0 ((Zbg kk (tz (s + 1)) (P ++ [y])).length) ((Zbg kk (tz (s + 1)) (P ++ [y])).length)]), dsB (Zbg kk (tz (s + 1)) (P ++ [y]))] := by
  have hml : m ≤ 100000 := by have := Zsw s; omega
  have htz : tz (s + 1) ≤ m := by rw [hp]; exact (Zpp s).1
  refine Zb8 (fn := Tryd.f21) (nt := 74) rfl rfl rfl rfl ?_
  refine Zah 2 (H' := [mxB 2 ([Iv (s : Nat), slv 1 0 m m]), dsB P, hole, hole]) rfl ?_
  refine Ze (Zf ?_)
  refine Zdc (v := dgV y) (b := dgB y) (nid := 2) (H' := [mxB 2 ([Iv (s : Nat), slv 1 0 m m]), dsB P, dgB y, hole]) rfl rfl rfl (by kernel_rfl) (by kernel_rfl) ?_
  refine Za (Zb (Ze ?_))
  refine Zfs (by kernel_rfl) ?_
  refine Zd rfl rfl (pt 0 0) rfl (Zd rfl rfl (pt 0 0) rfl ?_)
  refine Z7 (p := pt 0 0) (v := pt 0 0) rfl rfl rfl rfl ?_
  refine Zh (b := 0) (o := 0) (n := 0) (o' := 0) rfl rfl rfl rfl rfl ?_
  refine Zh (b := 0) (o := 0) (n := 1) (o' := 1) rfl rfl rfl rfl rfl ?_
  refine Zg (p := pt 0 1) (v := slv 1 0 m m) rfl rfl rfl (by kernel_rfl) ?_
  refine Zg (p := pt 2 0) (v := dgV y) rfl rfl rfl (by kernel_rfl) ?_
  refine Zdd (vs := [(0, dgV y)]) (v := slv 3 0 1 1) (blk := dsB [y]) (nid := 3) (H' := [mxB 2 ([Iv (s : Nat), slv 1 0 m m]), dsB P, dgB y, dsB [y]]) rfl rfl rfl (by kernel_rfl) (by kernel_rfl) ?_
  have hl3 : (P ++ [y]).length = m + 1 := by have := hm; have := (rfl : _ = 1); first | (rw [List.length_append]; omega) | (rw [List.length_append, List.length_take]; omega) | (simp; omega) | simp
  refine Za5 (p := slv 1 0 m m) (q := slv 3 0 1 1) (v := slv 1 0 (m + 1) (m + 1)) (b := 1) (blk := dsB (P ++ [y])) (H' := [mxB 2 ([Iv (s : Nat), dead]), dsB (P ++ [y]), dgB y, dsB [y]]) rfl rfl rfl (.inl ⟨_, rfl⟩) rfl rfl (Zkm cDg (by_ := 32) (k := 1) (n' := m + 1) (ms := [y]) (fun _ => rfl) rfl rfl (by kernel_rfl) rfl rfl (by have := hm; omega) (by omega) (by decide) (by omega)) rfl (by kernel_rfl) ?_
  refine Z7 (p := pt 0 0) (v := pt 0 0) rfl rfl rfl rfl ?_
  refine Zh (b := 0) (o := 0) (n := 0) (o' := 0) rfl rfl rfl rfl rfl ?_
  refine Zh (b := 0) (o := 0) (n := 1) (o' := 1) rfl rfl rfl rfl rfl ?_
  refine Zj (p := pt 0 1) (v := slv 1 0 (m + 1) (m + 1)) (b := 0) (blk := mxB 2 ([Iv (s : Nat), slv 1 0 (m + 1) (m + 1)])) (H' := [mxB 2 ([Iv (s : Nat), slv 1 0 (m + 1) (m + 1)]), dsB (P ++ [y]), dgB y, dsB [y]]) rfl rfl rfl (by kernel_rfl) (by kernel_rfl) ?_
  refine Zfg (Zgb [[], [], [1], [1, 2], [1, 2, 3], [1, 2, 3, 4], [], [6], [1, 2, 3, 4, 5, 6, 7], [0, 1, 2, 3, 4, 5, 6, 7, 8], [0, 1, 2, 3, 4, 5, 6, 7, 8, 9], [0, 1, 2, 3, 4, 5, 6, 7, 8, 9, 10], [0, 1, 2, 3, 4, 5, 6, 7, 8, 9, 10, 11]] (by kernel_rfl) (by kernel_rfl)) ?_
  refine Zb (Ze (Zf (Zd rfl rfl (pt 0 0) rfl ?_)))
  refine Z7 (p := pt 0 0) (v := pt 0 0) rfl rfl rfl rfl ?_
  refine Zh (b := 0) (o := 0) (n := 0) (o' := 0) rfl rfl rfl rfl rfl ?_
  refine Zh (b := 0) (o := 0) (n := 0) (o' := 0) rfl rfl rfl rfl rfl ?_
  refine Zg (p := pt 0 0) (v := Iv (s : Nat)) rfl rfl rfl (by kernel_rfl) ?_
  refine Zi (vx := Iv (s : Nat)) (vy := Iv 1) rfl rfl (Iv ((s : Nat) + 1)) rfl rfl (Zap (by omega) (by omega) (by omega)) ?_
  refine Z7 (p := pt 0 0) (v := pt 0 0) rfl rfl rfl rfl ?_
  refine Zh (b := 0) (o := 0) (n := 0) (o' := 0) rfl rfl rfl rfl rfl ?_
  refine Zh (b := 0) (o := 0) (n := 0) (o' := 0) rfl rfl rfl rfl rfl ?_
  refine Zj (p := pt 0 0) (v := Iv ((s : Nat) + 1)) (b := 0) (blk := mxB 2 ([Iv ((s : Nat) + 1), slv 1 0 (m + 1) (m + 1)])) (H' := [mxB 2 ([Iv ((s : Nat) + 1), slv 1 0 (m + 1) (m + 1)]), dsB (P ++ [y]), dgB y, dsB [y]]) rfl rfl rfl (by kernel_rfl) (by kernel_rfl) ?_
  refine Za (Zb (Ze (Zf (Zd rfl rfl (pt 0 0) rfl ?_))))
  refine Z7 (p := pt 0 0) (v := pt 0 0) rfl rfl rfl rfl ?_
  refine Zh (b := 0) (o := 0) (n := 0) (o' := 0) rfl rfl rfl rfl rfl ?_
  refine Zh (b := 0) (o := 0) (n := 0) (o' := 0) rfl rfl rfl rfl rfl ?_
  refine Zg (p := pt 0 0) (v := Iv ((s : Nat) + 1)) rfl rfl rfl (by kernel_rfl) ?_
  refine Zcc (w := Iv ((s : Nat) + 1)) (v := w64 (BitVec.ofInt 64 ((s : Nat) + 1))) rfl rfl rfl (Zms rfl rfl rfl) ?_
  refine Zv (TZ_c (G := G) hG1 ((s : Nat) + 1) (s + 1) (by omega) (by omega) (by omega)) (vals := [w64 (BitVec.ofInt 64 ((s : Nat) + 1))]) (res' := Iv (((tz (s + 1)) : Nat) : Int)) rfl rfl rfl rfl rfl rfl ?_
  refine Zd rfl rfl (Iv 0) rfl (Za (Zb (Z1 ?_)))
  refine Zby (fun x : Nat × Nat × (List D) => match x with | (j, q, Q) => [pt 0 0, dgV y, dead, pt 2 0, dead, dead, dead, dead, dead, dead, dead, dead, dead, dead, dead, dead, dead, dead, dead, dead, dead, dead, dead, dead, dead, dead, dead, dead, dead, dead, dead, dead, Iv (((tz (s + 1)) : Nat) : Int), Iv (j : Nat)]) (fun x : Nat × Nat × (List D) => match x with | (j, q, Q) => [mxB 2 ([Iv ((s : Nat) + 1), slv 1 0 q q]), dsB Q, dgB y, dsB [y]]) (fun x : Nat × Nat × (List D) => match x with | (j, q, Q) => Q = Zbg kk j (P ++ [y]) ∧ Q.length = q ∧ q + j = m + 1 ∧ j ≤ tz (s + 1)) (fun x : Nat × Nat × (List D) => match x with | (j, q, Q) => tz (s + 1) - j) (0, (m + 1), (P ++ [y])) ⟨rfl, by rw [List.length_append, hm]; first | done | rfl, by first | omega | (dsimp only; omega), by first | omega | (dsimp only; omega)⟩ ?_ ?_
  · refine Z2 (n := 4) rfl ?_ (by kernel_rfl) (by kernel_rfl)
    repeat (first | exact trivial | refine ⟨.inl rfl, ?_⟩ | refine ⟨.inr ⟨rfl, rfl⟩, ?_⟩ | refine ⟨.inr ⟨congrArg (Value.int .i64) (by first | omega | (dsimp only; omega)), rfl⟩, ?_⟩)
  rintro ⟨j, q, Q⟩ ⟨hQ, hq, hqj, hj⟩
  dsimp only at *
  refine Zah 2 (H' := [mxB 2 ([Iv ((s : Nat) + 1), slv 1 0 q q]), dsB Q, dgB y, dsB [y], hole, hole]) rfl ?_
  refine Ze (Zf ?_)
  by_cases h1 : (j : Nat) < (((tz (s + 1)) : Nat) : Int)
  refine Zi (vx := Iv (j : Nat)) (vy := Iv (((tz (s + 1)) : Nat) : Int)) rfl rfl (.bool true) rfl rfl (Zcv (by omega)) ?_
  refine Za (Zb (Ze (Zu rfl (Z0 (Zb (Ze (Z1 (Ze (Zf (Zd rfl rfl (pt 0 0) rfl ?_))))))))))
  refine Z7 (p := pt 0 0) (v := pt 0 0) rfl rfl rfl rfl ?_
  refine Zh (b := 0) (o := 0) (n := 0) (o' := 0) rfl rfl rfl rfl rfl ?_
  refine Zh (b := 0) (o := 0) (n := 1) (o' := 1) rfl rfl rfl rfl rfl ?_
  refine Zg (p := pt 0 1) (v := slv 1 0 q q) rfl rfl rfl (by kernel_rfl) ?_
  refine Za6 (p := slv 1 0 q q) (v := Iv (q : Nat)) rfl rfl rfl rfl ?_
  refine Zi (vx := Iv (q : Nat)) (vy := Iv 2) rfl rfl (Iv ((q : Nat) - 2)) rfl rfl (Zb5 (by omega) (by omega) (by omega)) ?_
  refine Zc rfl rfl (Iv ((q : Nat) - 2)) rfl (Za (Zb ?_))
  refine Zfs (by kernel_rfl) ?_
  refine Zd rfl rfl (pt 0 0) rfl (Zd rfl rfl (pt 0 0) rfl ?_)
  refine Z7 (p := pt 0 0) (v := pt 0 0) rfl rfl rfl rfl ?_
  refine Zh (b := 0) (o := 0) (n := 0) (o' := 0) rfl rfl rfl rfl rfl ?_
  refine Zh (b := 0) (o := 0) (n := 1) (o' := 1) rfl rfl rfl rfl rfl ?_
  refine Zg (p := pt 0 1) (v := slv 1 0 q q) rfl rfl rfl (by kernel_rfl) ?_
  refine Zd rfl rfl (Iv ((q : Nat) - 2)) rfl ?_
  refine Zci (p := slv 1 0 q q) (vl := none) (vh := some (Iv ((q : Nat) - 2))) (v := slv 1 0 (q - 2) q) rfl rfl rfl rfl rfl (Zgt (h := q - 2) rfl rfl (by omega) (by omega) rfl) ?_
  refine Zd rfl rfl (pt 0 0) rfl ?_
  refine Z7 (p := pt 0 0) (v := pt 0 0) rfl rfl rfl rfl ?_
  refine Zh (b := 0) (o := 0) (n := 0) (o' := 0) rfl rfl rfl rfl rfl ?_
  refine Zh (b := 0) (o := 0) (n := 1) (o' := 1) rfl rfl rfl rfl rfl ?_
  refine Zg (p := pt 0 1) (v := slv 1 0 q q) rfl rfl rfl (by kernel_rfl) ?_
  refine Zd rfl rfl (Iv ((q : Nat) - 2)) rfl ?_
  refine Zbe (b := 1) (o := 0) (j := (q - 2) * 32) (m := q) (c := q) (sz := 32) (i := (q : Nat) - 2) (k := .i64) rfl rfl rfl rfl rfl (by omega) (by omega) (by omega) ?_
  refine Zg (p := pt 1 ((q - 2) * 32)) (v := dgV (Q.getD (q - 2) d0)) rfl rfl rfl (Zoe rfl rfl rfl (by have := hq; omega) (by omega)) ?_
  refine Zd rfl rfl (pt 0 0) rfl ?_
  refine Z7 (p := pt 0 0) (v := pt 0 0) rfl rfl rfl rfl ?_
  refine Zh (b := 0) (o := 0) (n := 0) (o' := 0) rfl rfl rfl rfl rfl ?_
  refine Zh (b := 0) (o := 0) (n := 1) (o' := 1) rfl rfl rfl rfl rfl ?_
  refine Zg (p := pt 0 1) (v := slv 1 0 q q) rfl rfl rfl (by kernel_rfl) ?_
  refine Zd rfl rfl (Iv ((q : Nat) - 2)) rfl ?_
  refine Zi (vx := Iv ((q : Nat) - 2)) (vy := Iv 1) rfl rfl (Iv ((q : Nat) - 1)) rfl rfl (Zap (by omega) (by omega) (by omega)) ?_
  refine Zbe (b := 1) (o := 0) (j := (q - 1) * 32) (m := q) (c := q) (sz := 32) (i := (q : Nat) - 1) (k := .i64) rfl rfl rfl rfl rfl (by omega) (by omega) (by omega) ?_
  refine Zg (p := pt 1 ((q - 1) * 32)) (v := dgV (Q.getD (q - 1) d0)) rfl rfl rfl (Zoe rfl rfl rfl (by have := hq; omega) (by omega)) ?_
  refine Zv (Zhs (G := G) kk hG (Q.getD (q - 2) d0) (Q.getD (q - 1) d0)) (vals := [dgV (Q.getD (q - 2) d0), dgV (Q.getD (q - 1) d0)]) (res' := dgV (Zba kk (Q.getD (q - 2) d0) (Q.getD (q - 1) d0))) rfl rfl rfl rfl rfl rfl ?_
  refine Zdd (vs := [(0, dgV (Zba kk (Q.getD (q - 2) d0) (Q.getD (q - 1) d0)))]) (v := slv 4 0 1 1) (blk := dsB [(Zba kk (Q.getD (q - 2) d0) (Q.getD (q - 1) d0))]) (nid := 4) (H' := [mxB 2 ([Iv ((s : Nat) + 1), slv 1 0 q q]), dsB Q, dgB y, dsB [y], dsB [(Zba kk (Q.getD (q - 2) d0) (Q.getD (q - 1) d0))], hole]) rfl rfl rfl (by kernel_rfl) (by kernel_rfl) ?_
  have hl4 : (Q.take (q - 2) ++ [(Zba kk (Q.getD (q - 2) d0) (Q.getD (q - 1) d0))]).length = q - 1 := by have := hq; have := (rfl : _ = 1); first | (rw [List.length_append]; omega) | (rw [List.length_append, List.length_take]; omega) | (simp; omega) | simp
  refine Za5 (p := slv 1 0 (q - 2) q) (q := slv 4 0 1 1) (v := slv 1 0 ((Q.take (q - 2) ++ [(Zba kk (Q.getD (q - 2) d0) (Q.getD (q - 1) d0))]).length) ((Q.take (q - 2) ++ [(Zba kk (Q.getD (q - 2) d0) (Q.getD (q - 1) d0))]).length)) (b := 1) (blk := dsB (Q.take (q - 2) ++ [(Zba kk (Q.getD (q - 2) d0) (Q.getD (q - 1) d0))])) (H' := [mxB 2 ([Iv ((s : Nat) + 1), dead]), dsB (Q.take (q - 2) ++ [(Zba kk (Q.getD (q - 2) d0) (Q.getD (q - 1) d0))]), dgB y, dsB [y], dsB [(Zba kk (Q.getD (q - 2) d0) (Q.getD (q - 1) d0))], hole]) rfl rfl rfl (.inl ⟨_, rfl⟩) rfl rfl (Z0o cDg (by_ := 32) (k := 1) (n' := ((Q.take (q - 2) ++ [(Zba kk (Q.getD (q - 2) d0) (Q.getD (q - 1) d0))]).length)) (ms := [(Zba kk (Q.getD (q - 2) d0) (Q.getD (q - 1) d0))]) (fun _ => rfl) rfl rfl (by kernel_rfl) rfl rfl (by have := hq; omega) (by omega) (by decide) (by omega)) rfl (by kernel_rfl) ?_
  refine Z7 (p := pt 0 0) (v := pt 0 0) rfl rfl rfl rfl ?_
  refine Zh (b := 0) (o := 0) (n := 0) (o' := 0) rfl rfl rfl rfl rfl ?_
  refine Zh (b := 0) (o := 0) (n := 1) (o' := 1) rfl rfl rfl rfl rfl ?_
  refine Zj (p := pt 0 1) (v := slv 1 0 ((Q.take (q - 2) ++ [(Zba kk (Q.getD (q - 2) d0) (Q.getD (q - 1) d0))]).length) ((Q.take (q - 2) ++ [(Zba kk (Q.getD (q - 2) d0) (Q.getD (q - 1) d0))]).length)) (b := 0) (blk := mxB 2 ([Iv ((s : Nat) + 1), slv 1 0 ((Q.take (q - 2) ++ [(Zba kk (Q.getD (q - 2) d0) (Q.getD (q - 1) d0))]).length) ((Q.take (q - 2) ++ [(Zba kk (Q.getD (q - 2) d0) (Q.getD (q - 1) d0))]).length)])) (H' := [mxB 2 ([Iv ((s : Nat) + 1), slv 1 0 ((Q.take (q - 2) ++ [(Zba kk (Q.getD (q - 2) d0) (Q.getD (q - 1) d0))]).length) ((Q.take (q - 2) ++ [(Zba kk (Q.getD (q - 2) d0) (Q.getD (q - 1) d0))]).length)]), dsB (Q.take (q - 2) ++ [(Zba kk (Q.getD (q - 2) d0) (Q.getD (q - 1) d0))]), dgB y, dsB [y], dsB [(Zba kk (Q.getD (q - 2) d0) (Q.getD (q - 1) d0))], hole]) rfl rfl rfl (by kernel_rfl) (by kernel_rfl) ?_
  refine Zfg (Zgb [[], [], [1], [1, 2], [1, 2, 3], [1, 2, 3, 4], [], [1, 2, 3, 4, 5, 6], [], [8], [8, 9], [8, 9, 10], [8, 9, 10, 11], [], [8, 9, 10, 11, 12, 13], [8, 9, 10, 11, 12, 13, 14], [], [16], [16, 17], [16, 17, 18], [16, 17, 18, 19], [], [21], [16, 17, 18, 19, 20, 21, 22], [16, 17, 18, 19, 20, 21, 22, 23], [8, 9, 10, 11, 12, 13, 14, 15, 16, 17, 18, 19, 20, 21, 22, 23, 24], [8, 9, 10, 11, 12, 13, 14, 15, 16, 17, 18, 19, 20, 21, 22, 23, 24, 25], [1, 2, 3, 4, 5, 6, 7, 8, 9, 10, 11, 12, 13, 14, 15, 16, 17, 18, 19, 20, 21, 22, 23, 24, 25, 26], [0, 1, 2, 3, 4, 5, 6, 7, 8, 9, 10, 11, 12, 13, 14, 15, 16, 17, 18, 19, 20, 21, 22, 23, 24, 25, 26, 27], [0, 1, 2, 3, 4, 5, 6, 7, 8, 9, 10, 11, 12, 13, 14, 15, 16, 17, 18, 19, 20, 21, 22, 23, 24, 25, 26, 27, 28], [0, 1, 2, 3, 4, 5, 6, 7, 8, 9, 10, 11, 12, 13, 14, 15, 16, 17, 18, 19, 20, 21, 22, 23, 24, 25, 26, 27, 28, 29], [0, 1, 2, 3, 4, 5, 6, 7, 8, 9, 10, 11, 12, 13, 14, 15, 16, 17, 18, 19, 20, 21, 22, 23, 24, 25, 26, 27, 28, 29, 30]] (by kernel_rfl) (by kernel_rfl)) ?_
  refine Zag (Zb (Zf ?_))
  refine Zi (vx := Iv (j : Nat)) (vy := Iv 1) rfl rfl (Iv ((j : Nat) + 1)) rfl rfl (Zap (by omega) (by omega) (by omega)) ?_
  refine Zd rfl rfl (Iv ((j : Nat) + 1)) rfl (Za ?_)
  refine Zx ⟨((j + 1), ((Q.take (q - 2) ++ [(Zba kk (Q.getD (q - 2) d0) (Q.getD (q - 1) d0))]).length), (Q.take (q - 2) ++ [(Zba kk (Q.getD (q - 2) d0) (Q.getD (q - 1) d0))])), ⟨Zzc hQ (by omega) (by omega) (by omega), rfl, by first | omega | (dsimp only; omega), by first | omega | (dsimp only; omega)⟩, by show tz (s + 1) - (j + 1) < tz (s + 1) - j; omega, ?_⟩
  refine Z2 (n := 4) rfl ?_ (by kernel_rfl) (by kernel_rfl)
  repeat (first | exact trivial | refine ⟨.inl rfl, ?_⟩ | refine ⟨.inr ⟨rfl, rfl⟩, ?_⟩ | refine ⟨.inr ⟨congrArg (Value.int .i64) (by first | omega | (dsimp only; omega)), rfl⟩, ?_⟩)
  refine Zi (vx := Iv (j : Nat)) (vy := Iv (((tz (s + 1)) : Nat) : Int)) rfl rfl (.bool false) rfl rfl (Zbv (by omega)) ?_
  refine Za (Zb (Ze (Zr rfl (Zbx (Zay (Zav (Za2 rfl (Zll ?_))))))))
  obtain rfl : j = tz (s + 1) := by omega
  subst hQ
  subst hq
  exact Zo (v := .tuple #[]) rfl rfl rfl (by kernel_rfl) trivial
theorem Z2v (kk : Nat → BitVec 32) (hG : G 0 = some (Zaa w32 64 kk)) (hG1 : G 2 = some (Zaa u8N 64 dbF)) (P : List D) (s m c : Nat) (y : D) (hm : P.length = m) (hc : m ≤ c) (hs : s ≤ 99999) (hp : m = pcF s) : Zac Tryd.prog G 6 [mxV ([Iv (s : Nat), slv 0 0 m c]), dgV y] [dsR P] (.tuple #[mxV ([Iv ((s : Nat) + 1), slv 1 0 ((Zbg kk (tz (s + 1)) (P ++ [y])).length) ((Zbg kk (tz (s + 1)) (P ++ [y])).length)]), Iv 0]) [dsR P, dsB (Zbg kk (tz (s + 1)) (P ++ [y]))] := by
  have hml : m ≤ 100000 := by have := Zsw s; omega
  refine Zb8 (fn := Tryd.f6) (nt := 35) rfl rfl rfl rfl ?_
  refine Zah 5 (H' := [dsR P, hole, hole, hole, hole, hole]) rfl ?_
  refine Ze (Zf ?_)
  refine Zdc (v := mxV ([Iv (s : Nat), slv 0 0 m c])) (b := mxB 2 ([Iv (s : Nat), slv 0 0 m c])) (nid := 1) (H' := [dsR P, mxB 2 ([Iv (s : Nat), slv 0 0 m c]), hole, hole, hole, hole]) rfl rfl rfl (by kernel_rfl) (by kernel_rfl) ?_
  refine Zdc (v := dgV y) (b := dgB y) (nid := 2) (H' := [dsR P, mxB 2 ([Iv (s : Nat), slv 0 0 m c]), dgB y, hole, hole, hole]) rfl rfl rfl (by kernel_rfl) (by kernel_rfl) ?_
  refine Zq (b := mxB 2 ([Iv 0, .slice none 0 0])) (nid := 3) (H' := [dsR P, mxB 2 ([Iv (s : Nat), slv 0 0 m c]), dgB y, mxB 2 ([Iv 0, .slice none 0 0]), hole, hole]) rfl rfl (by kernel_rfl) (by kernel_rfl) ?_
  refine Zc rfl rfl (Iv 0) rfl (Za (Zb (Ze (Zf ?_))))
  refine Zg (p := pt 1 0) (v := mxV ([Iv (s : Nat), slv 0 0 m c])) rfl rfl rfl (by kernel_rfl) ?_
  refine Zab (e := [some (0, 0)]) (nid := 0) (Zqu (G := G) P s m c hm (by omega) (by omega) (by omega)) (vals := [mxV ([Iv (s : Nat), slv 0 0 m c])]) (v := Iv 0) (H' := [dsR P, mxB 2 ([Iv (s : Nat), slv 0 0 m c]), dgB y, mxB 2 ([Iv 0, .slice none 0 0]), hole, hole]) rfl rfl rfl rfl rfl rfl rfl ⟨⟨(Zlr (by kernel_rfl) ⟨⟨rfl, rfl⟩, ⟨rfl, rfl, rfl, by first | omega | exact Nat.le_refl _, by first | omega | exact Nat.le_refl _⟩, trivial⟩), trivial⟩, ⟨(Zoa rfl), trivial⟩, rfl, rfl, rfl⟩ rfl (by kernel_rfl) ?_
  refine Zc rfl rfl (Iv 0) rfl (Za (Zb (Ze (Z1 (Ze (Zf (Zd rfl rfl (Iv 0) rfl ?_)))))))
  refine Zi (vx := Iv 0) (vy := Iv 0) rfl rfl (.bool false) rfl rfl (Zen (by omega)) ?_
  refine Zc rfl rfl (.bool false) rfl (Za (Zb (Zr rfl (Ze (Zf ?_)))))
  refine Zh (b := 1) (o := 0) (n := 0) (o' := 0) rfl rfl rfl rfl rfl ?_
  refine Zg (p := pt 1 0) (v := Iv (s : Nat)) rfl rfl rfl (by kernel_rfl) ?_
  refine Zi (vx := Iv (s : Nat)) (vy := Iv 100000) rfl rfl (.bool false) rfl rfl (Zfc (by omega)) ?_
  refine Zc rfl rfl (.bool false) rfl (Za (Zb (Zr rfl (Z0 (Zag (Zb (Ze ?_)))))))
  refine Zfs (by kernel_rfl) ?_
  refine Zh (b := 1) (o := 0) (n := 0) (o' := 0) rfl rfl rfl rfl rfl ?_
  refine Zg (p := pt 1 0) (v := Iv (s : Nat)) rfl rfl rfl (by kernel_rfl) ?_
  refine Zh (b := 1) (o := 0) (n := 1) (o' := 1) rfl rfl rfl rfl rfl ?_
  refine Zg (p := pt 1 1) (v := slv 0 0 m c) rfl rfl rfl (by kernel_rfl) ?_
  refine Zab (e := [some (0, 0)]) (nid := 4) (Zyg (G := G) P m c hm (by omega) (by omega)) (vals := [slv 0 0 m c]) (v := slv 4 0 m m) (H' := [dsR P, mxB 2 ([Iv (s : Nat), slv 0 0 m c]), dgB y, mxB 2 ([Iv 0, .slice none 0 0]), dsB P, hole]) rfl rfl rfl rfl rfl rfl rfl ⟨⟨⟨rfl, rfl, rfl, by first | omega | exact Nat.le_refl _, by first | omega | exact Nat.le_refl _⟩, trivial⟩, ⟨(Zoa rfl), trivial⟩, rfl, rfl, rfl⟩ (by kernel_rfl) (by kernel_rfl) ?_
  refine Zbf (vs := [(0, Iv (s : Nat)), (1, slv 4 0 m m)]) (v := mxV ([Iv (s : Nat), slv 4 0 m m])) rfl rfl rfl (by kernel_rfl) ?_
  refine Zbf (vs := [(0, mxV ([Iv (s : Nat), slv 4 0 m m]))]) (v := mxV ([Iv (s : Nat), slv 4 0 m m])) rfl rfl rfl (by kernel_rfl) ?_
  refine Zdc (v := mxV ([Iv (s : Nat), slv 4 0 m m])) (b := mxB 2 ([Iv (s : Nat), slv 4 0 m m])) (nid := 5) (H' := [dsR P, mxB 2 ([Iv (s : Nat), slv 0 0 m c]), dgB y, mxB 2 ([Iv 0, .slice none 0 0]), dsB P, mxB 2 ([Iv (s : Nat), slv 4 0 m m])]) rfl rfl rfl (by kernel_rfl) (by kernel_rfl) ?_
  refine Zc rfl rfl (pt 5 0) rfl ?_
  refine Zfg (Zgb [[], [0], [], [2], [2, 3], [0, 1, 2, 3, 4], [0, 1, 2, 3, 4, 5], [0, 1, 2, 3, 4, 5, 6], [0, 1, 2, 3, 4, 5, 6, 7]] (by kernel_rfl) (by kernel_rfl)) ?_
  refine Zb (Ze (Zf (Zd rfl rfl (pt 5 0) rfl ?_)))
  refine Zg (p := pt 2 0) (v := dgV y) rfl rfl rfl (by kernel_rfl) ?_
  refine Zev (e := [some (5, 0), some (4, 0)]) (nid := 0) (Z47 (G := G) kk hG hG1 P s m y hm (by omega) (by omega)) (vals := [pt 5 0, dgV y]) (v := .tuple #[]) (H' := [dsR P, mxB 2 ([Iv (s : Nat), slv 0 0 m c]), dgB y, mxB 2 ([Iv 0, .slice none 0 0]), dsB (Zbg kk (tz (s + 1)) (P ++ [y])), mxB 2 ([Iv ((s : Nat) + 1), slv 4 0 ((Zbg kk (tz (s + 1)) (P ++ [y])).length) ((Zbg kk (tz (s + 1)) (P ++ [y])).length)])]) rfl rfl rfl rfl rfl rfl ⟨⟨⟨rfl, rfl⟩, rfl, trivial⟩, ⟨(Zal (B := mxB 2 ([Iv (s : Nat), slv 4 0 m m])) (by kernel_rfl) rfl rfl (by kernel_rfl)), (Zal rfl rfl rfl rfl), trivial⟩, rfl, rfl, rfl, Nat.le_refl _⟩ (by kernel_rfl) rfl (by kernel_rfl) ?_
  refine Za (Zb (Ze (Zf (Zd rfl rfl (pt 5 0) rfl ?_))))
  refine Z7 (p := pt 5 0) (v := pt 5 0) rfl rfl rfl rfl ?_
  refine Zh (b := 5) (o := 0) (n := 0) (o' := 0) rfl rfl rfl rfl rfl ?_
  refine Zg (p := pt 5 0) (v := mxV ([Iv ((s : Nat) + 1), slv 4 0 ((Zbg kk (tz (s + 1)) (P ++ [y])).length) ((Zbg kk (tz (s + 1)) (P ++ [y])).length)])) rfl rfl rfl (by kernel_rfl) ?_
  refine Zj (p := pt 3 0) (v := mxV ([Iv ((s : Nat) + 1), slv 4 0 ((Zbg kk (tz (s + 1)) (P ++ [y])).length) ((Zbg kk (tz (s + 1)) (P ++ [y])).length)])) (b := 3) (blk := mxB 2 ([Iv ((s : Nat) + 1), slv 4 0 ((Zbg kk (tz (s + 1)) (P ++ [y])).length) ((Zbg kk (tz (s + 1)) (P ++ [y])).length)])) (H' := [dsR P, mxB 2 ([Iv (s : Nat), slv 0 0 m c]), dgB y, mxB 2 ([Iv ((s : Nat) + 1), slv 4 0 ((Zbg kk (tz (s + 1)) (P ++ [y])).length) ((Zbg kk (tz (s + 1)) (P ++ [y])).length)]), dsB (Zbg kk (tz (s + 1)) (P ++ [y])), mxB 2 ([Iv ((s : Nat) + 1), slv 4 0 ((Zbg kk (tz (s + 1)) (P ++ [y])).length) ((Zbg kk (tz (s + 1)) (P ++ [y])).length)])]) rfl rfl rfl (by kernel_rfl) (by kernel_rfl) ?_
  refine Zc rfl rfl (Iv 0) rfl (Za (Zb (Zw (Zy ?_))))
  exact Zdg [0, 4] (v := .tuple #[mxV ([Iv ((s : Nat) + 1), slv 4 0 ((Zbg kk (tz (s + 1)) (P ++ [y])).length) ((Zbg kk (tz (s + 1)) (P ++ [y])).length)]), Iv 0]) rfl (by kernel_rfl) rfl rfl (by decide) (by simp [Za1, dsB, dsR]) ⟨(Zlr (by kernel_rfl) ⟨⟨rfl, rfl⟩, ⟨rfl, rfl, rfl, by first | omega | exact Nat.le_refl _ | exact Nat.zero_le _ | (dsimp only; omega), by first | omega | exact Nat.le_refl _ | exact Nat.zero_le _ | (dsimp only; omega)⟩, trivial⟩), rfl, trivial⟩
end Go.Flat
