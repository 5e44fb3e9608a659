/- Walks. -/
import Derived.Test.YtoheeojjdpdljaaDoorH30
set_option linter.unusedVariables false
set_option linter.unusedSimpArgs false
set_option maxRecDepth 20000
namespace Go.Flat
open Go.Proofs
variable {G : Glob}
theorem Zmu {b : Bs} {n : Nat} (hn : b.length = n) : (b ++ List.replicate 7 195#8).length = n + 7 := by simp [hn]
theorem Zy8 {b : Bs} {n : Nat} (hn : b.length = n) : Zbq (Zl ((b ++ List.replicate 7 195#8).take n)) (Zl b) = true := by
 rw [List.take_append_of_le_length (by omega), List.take_of_length_le (by omega)]; exact Zgh _
theorem Zv8 {b : Bs} {n : Nat} (hn : b.length = n) : Zbq (Zl (((b ++ List.replicate 7 195#8).drop 0).take n)) (Zl b) = true := Zy8 hn
theorem Z2d {b : Bs} {n i : Nat} (hn : b.length = n) (h : n ≤ i) (h2 : i < n + 7) : ((b ++ List.replicate 7 195#8).getD i 0 == 195#8) = true := by
 rw [List.getD_eq_getElem?_getD, List.getElem?_append_right (by omega), List.getElem?_replicate, if_pos (by omega)]; rfl
theorem Z2u (b : Bs) (n c : Nat) (hn : b.length = n) (hc : n ≤ c) (hb : n ≤ 1099511627776) : Zao Tryd.prog G 19 [slv 0 0 n c] [rdB b] (slv 1 0 n (n + 7)) [rdB b, Zy (b ++ List.replicate 7 195#8)] := by
  refine Zbv (fn := Tryd.f19) (nt := 19) rfl rfl rfl rfl ?_
  refine Zat 1 (H' := [rdB b, hole]) rfl ?_
  refine Zg (Zi (Zb rfl rfl (.slice none 0 0) rfl (Za (Zc (Zg (Zi (Zb rfl rfl (.slice none 0 0) rfl (Za (Zc (Zg ?_))))))))))
  refine Zcw (Zcq.nilTmp (i := 3) (b := 1) true 1 rfl (by decide) rfl) ?_
  refine Zi (Zd rfl rfl (slv 1 0 0 0) rfl (Zd rfl rfl (slv 0 0 n c) rfl ?_))
  have hl3 : ([] ++ b).length = n := by have := hn; first | (rw [List.length_append]; omega) | (simp; omega) | simp
  refine Zbz (p := slv 1 0 0 0) (q := slv 0 0 n c) (v := slv 1 0 n n) (b := 1) (blk := Zy ([] ++ b)) (H' := [rdB b, Zy ([] ++ b)]) rfl rfl rfl (.inl ⟨_, rfl⟩) rfl rfl (Zh0 (by_ := 1) (n' := n) rfl rfl (Zka rfl rfl (by have := hn; omega)) rfl rfl rfl (by omega) (by decide) (by omega)) rfl (by kernel_rfl) ?_
  refine Zb rfl rfl (slv 1 0 n n) rfl (Za (Zc (Zg (Zg (Zi (Zb rfl rfl (Iv 0) rfl (Za (Zc (Zap ?_)))))))))
  refine Zb8 (fun x : Nat × Nat × Bs => match x with | (i, m, acc) => [slv 0 0 n c, dead, .slice none 0 0, slv 1 0 m m, Iv (i : Nat), dead, dead, dead]) (fun x : Nat × Nat × Bs => match x with | (i, m, acc) => [rdB b, Zy acc]) (fun x : Nat × Nat × Bs => match x with | (i, m, acc) => acc = b ++ List.replicate i 195#8 ∧ acc.length = m ∧ m = n + i ∧ i ≤ 7) (fun x : Nat × Nat × Bs => match x with | (i, m, acc) => 7 - i) (0, n, ([] ++ b)) ⟨by simp, by simp [hn], by omega, by omega⟩ ?_ ?_
  · refine Zaq (n := 2) rfl ?_ (by kernel_rfl) (by kernel_rfl)
    repeat (first | exact trivial | refine ⟨.inl rfl, ?_⟩ | refine ⟨.inr ⟨rfl, rfl⟩, ?_⟩ | refine ⟨.inr ⟨congrArg (Value.int .i64) (by first | omega | (dsimp only; omega)), rfl⟩, ?_⟩)
  rintro ⟨i, m, acc⟩ ⟨hR, ha, hm, hi⟩
  dsimp only at *
  refine Zat 3 (H' := [rdB b, Zy acc, hole, hole, hole]) rfl ?_
  refine Zg (Zg (Zi (Zd rfl rfl (Iv (i : Nat)) rfl ?_)))
  by_cases h1 : (i : Nat) < 7
  refine Zn (vx := Iv (i : Nat)) (vy := Iv 7) rfl rfl (.bool true) rfl rfl (Zdt (by omega)) ?_
  refine Za (Zc (Z0 rfl (Zai (Zc (Zg (Zap (Zi (Zd rfl rfl (slv 1 0 m m) rfl ?_))))))))
  refine Zd5 (vs := [(0, w8 (195#8))]) (v := slv 2 0 1 1) (blk := Zy [195#8]) (nid := 2) (H' := [rdB b, Zy acc, Zy [195#8], hole, hole]) rfl rfl rfl (by kernel_rfl) (by kernel_rfl) ?_
  have hl4 : (acc ++ [195#8]).length = m + 1 := by have := ha; have := (rfl : _ = 1); first | (rw [List.length_append]; omega) | (simp; omega) | simp
  refine Zbz (p := slv 1 0 m m) (q := slv 2 0 1 1) (v := slv 1 0 (m + 1) (m + 1)) (b := 1) (blk := Zy (acc ++ [195#8])) (H' := [rdB b, Zy (acc ++ [195#8]), Zy [195#8], hole, hole]) rfl rfl rfl (.inl ⟨_, rfl⟩) rfl rfl (Zh0 (by_ := 1) (n' := m + 1) rfl rfl (Zka rfl rfl (by have : ([195#8]).length = 1 := rfl; omega)) rfl rfl (by have := ha; omega) (by omega) (by decide) (by omega)) rfl (by kernel_rfl) ?_
  refine Zb rfl rfl (slv 1 0 (m + 1) (m + 1)) rfl (Za (Z1 (Zc (Zi (Zd rfl rfl (Iv (i : Nat)) rfl ?_)))))
  refine Zn (vx := Iv (i : Nat)) (vy := Iv 1) rfl rfl (Iv ((i : Nat) + 1)) rfl rfl (Za7 (by omega) (by omega) (by omega)) ?_
  refine Zb rfl rfl (Iv ((i : Nat) + 1)) rfl (Za ?_)
  refine Zau ⟨((i + 1), (m + 1), (acc ++ [195#8])), ⟨by dsimp only; rw [hR, List.append_assoc, ← List.replicate_succ'], by rw [List.length_append, ha]; rfl, by dsimp only; omega, by dsimp only; omega⟩, by show 7 - (i + 1) < 7 - i; omega, ?_⟩
  refine Zaq (n := 2) rfl ?_ (by kernel_rfl) (by kernel_rfl)
  repeat (first | exact trivial | refine ⟨.inl rfl, ?_⟩ | refine ⟨.inr ⟨rfl, rfl⟩, ?_⟩ | refine ⟨.inr ⟨congrArg (Value.int .i64) (by first | omega | (dsimp only; omega)), rfl⟩, ?_⟩)
  refine Zn (vx := Iv (i : Nat)) (vy := Iv 7) rfl rfl (.bool false) rfl rfl (Zdh (by omega)) ?_
  refine Za (Zc (Zx rfl (Zce (Zbj (Zbo (Zbp rfl (Zc (Zg (Zi (Zd rfl rfl (slv 1 0 m m) rfl (Zd rfl rfl (slv 0 0 n c) rfl ?_)))))))))))
  refine Zb7 (p := slv 0 0 n c) (v := Iv (n : Nat)) rfl rfl rfl rfl ?_
  refine Zec (p := slv 1 0 m m) (vl := none) (vh := some (Iv (n : Nat))) (v := slv 1 0 n m) rfl rfl rfl rfl rfl (Zot (h := n) rfl rfl (by omega) (by omega) rfl) ?_
  refine Zb rfl rfl (slv 1 0 n m) rfl (Za (Zc (Zv (Zu ?_))))
  obtain rfl : i = 7 := by omega
  rw [← hR, show n + 7 = m by omega]
  exact Za5 [0, 1] (v := slv 1 0 n m) rfl (by kernel_rfl) rfl rfl (by decide) (by simp [Zac, rdB, Zy]) ⟨rfl, rfl, rfl, by first | omega | exact Nat.le_refl _ | exact Nat.zero_le _ | (dsimp only; omega), by first | omega | exact Nat.le_refl _ | exact Nat.zero_le _ | (dsimp only; omega)⟩
theorem Z3e (b : Bs) (n c : Nat) (hn : b.length = n) (hc : n ≤ c) (hb : n ≤ 1099511627776) : Zao Tryd.prog G 24 [slv 0 0 n (n + 7), slv 1 0 n c] [rdB (b ++ List.replicate 7 195#8), rdB b] (.bool true) [rdB (b ++ List.replicate 7 195#8), rdB b] := by
 refine Zbv (fn := Tryd.f24) (nt := 30) rfl rfl rfl rfl ?_
 refine Zg (Zi (Zb rfl rfl (.bool false) rfl (Za (Zc (Zg (Zg (Zi (Zd rfl rfl (slv 0 0 n (n + 7)) rfl ?_))))))))
 refine Zc6 (p := slv 0 0 n (n + 7)) (v := .string (Zl (((b ++ List.replicate 7 195#8).drop 0).take n))) rfl rfl rfl (Zmp rfl rfl rfl rfl rfl (by have := (Zmu hn); omega) rfl) ?_
 refine Zd rfl rfl (slv 1 0 n c) rfl ?_
 refine Zc6 (p := slv 1 0 n c) (v := .string (Zl b)) rfl rfl rfl (Zbi rfl rfl rfl rfl rfl (by have := hn; omega)) ?_
 refine Zn (vx := .string (Zl (((b ++ List.replicate 7 195#8).drop 0).take n))) (vy := .string (Zl b)) rfl rfl (.bool false) rfl rfl (Eq.trans (Zl7 _ _) (by rw [(Zv8 hn)] <;> rfl)) ?_
 refine Za (Zc (Zx rfl (Zai (Zc (Zg (Zi (Zd rfl rfl (slv 0 0 n (n + 7)) rfl (Zd rfl rfl (slv 1 0 n c) rfl ?_))))))))
 refine Zb7 (p := slv 1 0 n c) (v := Iv (n : Nat)) rfl rfl rfl rfl ?_
 refine Zn (vx := Iv (n : Nat)) (vy := Iv 7) rfl rfl (Iv ((n : Nat) + 7)) rfl rfl (Za7 (by omega) (by omega) (by omega)) ?_
 refine Zec (p := slv 0 0 n (n + 7)) (vl := none) (vh := some (Iv ((n : Nat) + 7))) (v := slv 0 0 (n + 7) (n + 7)) rfl rfl rfl rfl rfl (Zot (h := n + 7) rfl rfl (by omega) (by omega) rfl) ?_
 refine Zb rfl rfl (slv 0 0 (n + 7) (n + 7)) rfl (Za (Zc (Zg (Zg (Zi (Zd rfl rfl (slv 1 0 n c) rfl ?_))))))
 refine Zb7 (p := slv 1 0 n c) (v := Iv (n : Nat)) rfl rfl rfl rfl ?_
 refine Zb rfl rfl (Iv (n : Nat)) rfl (Za (Zc (Zap ?_)))
 refine Zb8 (fun i : Nat => [slv 0 0 n (n + 7), slv 1 0 n c, dead, dead, dead, slv 0 0 (n + 7) (n + 7), Iv (i : Nat), dead, dead, dead, dead, dead, dead, dead, dead, dead, dead, dead, dead]) (fun i : Nat => [rdB (b ++ List.replicate 7 195#8), rdB b]) (fun i : Nat => n ≤ i ∧ i ≤ n + 7) (fun i : Nat => n + 7 - i) n ⟨Nat.le_refl _, by omega⟩ ?_ ?_
 ·refine Zaq (n := 2) rfl ?_ (by kernel_rfl) (by kernel_rfl)
  repeat (first | exact trivial | refine ⟨.inl rfl, ?_⟩ | refine ⟨.inr ⟨rfl, rfl⟩, ?_⟩ | refine ⟨.inr ⟨congrArg (Value.int .i64) (by first | omega | (dsimp only; omega)), rfl⟩, ?_⟩)
 rintro i ⟨hi0, hi⟩
 refine Zat 1 (H' := [rdB (b ++ List.replicate 7 195#8), rdB b, hole]) rfl ?_
 refine Zg (Zg (Zi (Zd rfl rfl (Iv (i : Nat)) rfl (Zd rfl rfl (slv 0 0 (n + 7) (n + 7)) rfl ?_))))
 refine Zb7 (p := slv 0 0 (n + 7) (n + 7)) (v := Iv ((n : Nat) + 7)) rfl rfl rfl rfl ?_
 by_cases h1 : (i : Nat) < (n : Nat) + 7
 refine Zn (vx := Iv (i : Nat)) (vy := Iv ((n : Nat) + 7)) rfl rfl (.bool true) rfl rfl (Zdt (by omega)) ?_
 refine Za (Zc (Z0 rfl (Zai (Zc (Zg (Zap (Zg (Zi (Zd rfl rfl (slv 0 0 (n + 7) (n + 7)) rfl (Zd rfl rfl (Iv (i : Nat)) rfl ?_))))))))))
 refine Zbk (b := 0) (o := 0) (j := i) (m := n + 7) (c := n + 7) (sz := 1) (i := (i : Nat)) (k := .i64) rfl rfl rfl rfl rfl (by omega) (by omega) (by omega) ?_
 refine Zo (p := pt 0 i) (v := w8 ((b ++ List.replicate 7 195#8).getD i 0)) rfl rfl rfl (Zd3 rfl rfl rfl (by have := (Zmu hn); omega)) ?_
 refine Zn (vx := w8 ((b ++ List.replicate 7 195#8).getD i 0)) (vy := w8 (195#8)) rfl rfl (.bool false) rfl rfl (Eq.trans Z6n (by rw [(Z2d hn (by omega) (by omega))] <;> rfl)) ?_
 refine Za (Zc (Zx rfl (Zai (Z1 (Zc (Zi (Zd rfl rfl (Iv (i : Nat)) rfl ?_)))))))
 refine Zn (vx := Iv (i : Nat)) (vy := Iv 1) rfl rfl (Iv ((i : Nat) + 1)) rfl rfl (Za7 (by omega) (by omega) (by omega)) ?_
 refine Zb rfl rfl (Iv ((i : Nat) + 1)) rfl (Za ?_)
 refine Zau ⟨(i + 1), ⟨by omega, by omega⟩, by show n + 7 - (i + 1) < n + 7 - i; omega, ?_⟩
 refine Zaq (n := 2) rfl ?_ (by kernel_rfl) (by kernel_rfl)
 repeat (first | exact trivial | refine ⟨.inl rfl, ?_⟩ | refine ⟨.inr ⟨rfl, rfl⟩, ?_⟩ | refine ⟨.inr ⟨congrArg (Value.int .i64) (by first | omega | (dsimp only; omega)), rfl⟩, ?_⟩)
 refine Zn (vx := Iv (i : Nat)) (vy := Iv ((n : Nat) + 7)) rfl rfl (.bool false) rfl rfl (Zdh (by omega)) ?_
 refine Za (Zc (Zx rfl (Zce (Zbj (Zbo (Zbp rfl (Zc (Zg (Zi (Zb rfl rfl (.bool true) rfl (Za (Zc (Zv (Zu ?_))))))))))))))
 exact Zm (v := .bool true) rfl rfl rfl (by simp [Zac, rdB]) rfl
theorem Z16 (l : Bs) (n c : Nat) (hn : l.length = n) (hc : n ≤ c) (hb : n ≤ 1099511627776) : Zao Tryd.prog G 81 [slv 0 0 n c] [rdB l] (.tuple #[fdV (Za2 l n).1, Iv (Za2 l n).2.1, Iv (Za2 l n).2.2]) [rdB l] := by
 refine Zbv (fn := Tryd.f81) (nt := 53) rfl rfl rfl rfl ?_
 refine Zat 1 (H' := [rdB l, hole]) rfl ?_
 refine Zg (Zi ?_)
 refine Zae (b := bxB 2 (fdC (⟨0, ⟨#[]⟩⟩ : Field))) (nid := 1) (H' := [rdB l, bxB 2 (fdC (⟨0, ⟨#[]⟩⟩ : Field))]) rfl rfl (by kernel_rfl) (by kernel_rfl) ?_
 refine Zb rfl rfl (Iv 0) rfl (Zb rfl rfl (Iv 0) rfl (Za (Zc (Zg (Zg (Zi (Zd rfl rfl (slv 0 0 n c) rfl ?_)))))))
 refine Zb7 (p := slv 0 0 n c) (v := Iv (n : Nat)) rfl rfl rfl rfl ?_
 by_cases h1 : (n : Nat) < 4
 refine Zn (vx := Iv (n : Nat)) (vy := Iv 4) rfl rfl (.bool true) rfl rfl (Zdt (by omega)) ?_
 refine Za (Zc (Z0 rfl (Zg (Zi ?_))))
 refine Zaw (vs := []) (v := fdV (⟨0, ⟨#[]⟩⟩ : Field)) rfl rfl rfl (by kernel_rfl) ?_
 refine Zr (p := pt 1 0) (v := fdV (⟨0, ⟨#[]⟩⟩ : Field)) (b := 1) (blk := bxB 2 (fdC (⟨0, ⟨#[]⟩⟩ : Field))) (H' := [rdB l, bxB 2 (fdC (⟨0, ⟨#[]⟩⟩ : Field))]) rfl rfl rfl (by kernel_rfl) (by kernel_rfl) ?_
 refine Zb rfl rfl (Iv 0) rfl (Zb rfl rfl (Iv 10) rfl (Za (Zc (Zv (Z5 (Zu ?_))))))
 rw [show Za2 l n = ((⟨0, ⟨#[]⟩⟩ : Field), 0, 10) from by unfold Za2; (repeat' split) <;> first | rfl | omega | (simp_all; done) | (simp_all; omega) | (refine Prod.ext ?_ (Prod.ext (by dsimp only; omega) rfl); dsimp only; congr 2; congr 1; omega)]
 exact Zm (v := .tuple #[fdV (⟨0, ⟨#[]⟩⟩ : Field), Iv 0, Iv 10]) (by kernel_rfl) rfl rfl (by simp [Zac, rdB]) ⟨(Zbd (by kernel_rfl) rfl), rfl, rfl, trivial⟩
 refine Zn (vx := Iv (n : Nat)) (vy := Iv 4) rfl rfl (.bool false) rfl rfl (Zdh (by omega)) ?_
 refine Za (Zc (Zx rfl (Zai (Zc (Zg ?_)))))
 refine Zj2 (by kernel_rfl) ?_
 refine Zd rfl rfl (slv 0 0 n c) rfl ?_
 refine Zbk (b := 0) (o := 0) (j := 1) (m := n) (c := c) (sz := 1) (i := 1) (k := .i64) rfl rfl rfl rfl rfl (by omega) (by omega) (by omega) ?_
 refine Zo (p := pt 0 1) (v := w8 (l.getD 1 0)) rfl rfl rfl (Zd3 rfl rfl rfl (by have := hn; omega)) ?_
 have hw5 := BitVec.isLt (l.getD 1 0)
 refine Zdb (w := w8 (l.getD 1 0)) (v := Iv ((((l.getD 1 0).toNat) : Nat) : Int)) rfl rfl rfl (Zju rfl rfl (by have := (l.getD 1 0).isLt; omega) (by have := (l.getD 1 0).isLt; omega)) ?_
 refine Zn (vx := Iv 65536) (vy := Iv ((((l.getD 1 0).toNat) : Nat) : Int)) rfl rfl (Iv (65536 * ((((l.getD 1 0).toNat) : Nat) : Int))) rfl rfl (Zkz (by omega) (by omega) (by omega)) ?_
 refine Zd rfl rfl (slv 0 0 n c) rfl ?_
 refine Zbk (b := 0) (o := 0) (j := 2) (m := n) (c := c) (sz := 1) (i := 2) (k := .i64) rfl rfl rfl rfl rfl (by omega) (by omega) (by omega) ?_
 refine Zo (p := pt 0 2) (v := w8 (l.getD 2 0)) rfl rfl rfl (Zd3 rfl rfl rfl (by have := hn; omega)) ?_
 have hw6 := BitVec.isLt (l.getD 2 0)
 refine Zdb (w := w8 (l.getD 2 0)) (v := Iv ((((l.getD 2 0).toNat) : Nat) : Int)) rfl rfl rfl (Zju rfl rfl (by have := (l.getD 2 0).isLt; omega) (by have := (l.getD 2 0).isLt; omega)) ?_
 refine Zn (vx := Iv 256) (vy := Iv ((((l.getD 2 0).toNat) : Nat) : Int)) rfl rfl (Iv (256 * ((((l.getD 2 0).toNat) : Nat) : Int))) rfl rfl (Zkz (by omega) (by omega) (by omega)) ?_
 refine Zn (vx := Iv (65536 * ((((l.getD 1 0).toNat) : Nat) : Int))) (vy := Iv (256 * ((((l.getD 2 0).toNat) : Nat) : Int))) rfl rfl (Iv (65536 * ((((l.getD 1 0).toNat) : Nat) : Int) + 256 * ((((l.getD 2 0).toNat) : Nat) : Int))) rfl rfl (Za7 (by omega) (by omega) (by omega)) ?_
 refine Zd rfl rfl (slv 0 0 n c) rfl ?_
 refine Zbk (b := 0) (o := 0) (j := 3) (m := n) (c := c) (sz := 1) (i := 3) (k := .i64) rfl rfl rfl rfl rfl (by omega) (by omega) (by omega) ?_
 refine Zo (p := pt 0 3) (v := w8 (l.getD 3 0)) rfl rfl rfl (Zd3 rfl rfl rfl (by have := hn; omega)) ?_
 have hw7 := BitVec.isLt (l.getD 3 0)
 refine Zdb (w := w8 (l.getD 3 0)) (v := Iv ((((l.getD 3 0).toNat) : Nat) : Int)) rfl rfl rfl (Zju rfl rfl (by have := (l.getD 3 0).isLt; omega) (by have := (l.getD 3 0).isLt; omega)) ?_
 refine Zn (vx := Iv (65536 * ((((l.getD 1 0).toNat) : Nat) : Int) + 256 * ((((l.getD 2 0).toNat) : Nat) : Int))) (vy := Iv ((((l.getD 3 0).toNat) : Nat) : Int)) rfl rfl (Iv (65536 * ((((l.getD 1 0).toNat) : Nat) : Int) + 256 * ((((l.getD 2 0).toNat) : Nat) : Int) + ((((l.getD 3 0).toNat) : Nat) : Int))) rfl rfl (Za7 (by omega) (by omega) (by omega)) ?_
 refine Zb rfl rfl (Iv (65536 * ((((l.getD 1 0).toNat) : Nat) : Int) + 256 * ((((l.getD 2 0).toNat) : Nat) : Int) + ((((l.getD 3 0).toNat) : Nat) : Int))) rfl ?_
 refine Zig (Zki [[], [0], [0, 1], [0, 1, 2], [0, 1, 2, 3], [], [5], [5, 6], [5, 6, 7], [5, 6, 7, 8], [0, 1, 2, 3, 4, 5, 6, 7, 8, 9], [], [11], [11, 12], [11, 12, 13], [0, 1, 2, 3, 4, 5, 6, 7, 8, 9, 10, 11, 12, 13, 14], [0, 1, 2, 3, 4, 5, 6, 7, 8, 9, 10, 11, 12, 13, 14, 15]] (by kernel_rfl) (by kernel_rfl)) ?_
 refine Zc (Zg (Zg (Zi (Zd rfl rfl (slv 0 0 n c) rfl ?_))))
 refine Zbk (b := 0) (o := 0) (j := 0) (m := n) (c := c) (sz := 1) (i := 0) (k := .i64) rfl rfl rfl rfl rfl (by omega) (by omega) (by omega) ?_
 refine Zo (p := pt 0 0) (v := w8 (l.getD 0 0)) rfl rfl rfl (Zd3 rfl rfl rfl (by have := hn; omega)) ?_
 rcases Bool.eq_false_or_eq_true ((l.getD 0 0) == 0#8) with h2 | h2
 refine Zn (vx := w8 (l.getD 0 0)) (vy := w8 (0#8)) rfl rfl (.bool true) rfl rfl (Eq.trans Ztw (by rw [h2] <;> rfl)) ?_
 refine Zd rfl rfl (.bool true) rfl (Zf rfl rfl (Zf rfl rfl (Zk rfl rfl (.bool true) rfl (Za (Zc (Z0 rfl (Zg (Zi ?_))))))))
 refine Zaw (vs := []) (v := fdV (⟨0, ⟨#[]⟩⟩ : Field)) rfl rfl rfl (by kernel_rfl) ?_
 refine Zr (p := pt 1 0) (v := fdV (⟨0, ⟨#[]⟩⟩ : Field)) (b := 1) (blk := bxB 2 (fdC (⟨0, ⟨#[]⟩⟩ : Field))) (H' := [rdB l, bxB 2 (fdC (⟨0, ⟨#[]⟩⟩ : Field))]) rfl rfl rfl (by kernel_rfl) (by kernel_rfl) ?_
 refine Zb rfl rfl (Iv 0) rfl (Zb rfl rfl (Iv 11) rfl (Za (Zc (Zv (Z5 (Zu ?_))))))
 rw [show Za2 l n = ((⟨0, ⟨#[]⟩⟩ : Field), 0, 11) from by unfold Za2; (repeat' split) <;> first | rfl | omega | (simp_all; done) | (simp_all; omega) | (refine Prod.ext ?_ (Prod.ext (by dsimp only; omega) rfl); dsimp only; congr 2; congr 1; omega)]
 exact Zm (v := .tuple #[fdV (⟨0, ⟨#[]⟩⟩ : Field), Iv 0, Iv 11]) (by kernel_rfl) rfl rfl (by simp [Zac, rdB]) ⟨(Zbd (by kernel_rfl) rfl), rfl, rfl, trivial⟩
 refine Zn (vx := w8 (l.getD 0 0)) (vy := w8 (0#8)) rfl rfl (.bool false) rfl rfl (Eq.trans Ztw (by rw [h2] <;> rfl)) ?_
 refine Zd rfl rfl (.bool false) rfl (Zd rfl rfl (Iv (65536 * ((((l.getD 1 0).toNat) : Nat) : Int) + 256 * ((((l.getD 2 0).toNat) : Nat) : Int) + ((((l.getD 3 0).toNat) : Nat) : Int))) rfl ?_)
 by_cases h3 : 65536 < 65536 * ((((l.getD 1 0).toNat) : Nat) : Int) + 256 * ((((l.getD 2 0).toNat) : Nat) : Int) + ((((l.getD 3 0).toNat) : Nat) : Int)
 refine Zn (vx := Iv (65536 * ((((l.getD 1 0).toNat) : Nat) : Int) + 256 * ((((l.getD 2 0).toNat) : Nat) : Int) + ((((l.getD 3 0).toNat) : Nat) : Int))) (vy := Iv 65536) rfl rfl (.bool true) rfl rfl (Zf1 (by omega)) ?_
 refine Zk rfl rfl (.bool true) rfl (Za (Zc (Z0 rfl (Zg (Zi ?_)))))
 refine Zaw (vs := []) (v := fdV (⟨0, ⟨#[]⟩⟩ : Field)) rfl rfl rfl (by kernel_rfl) ?_
 refine Zr (p := pt 1 0) (v := fdV (⟨0, ⟨#[]⟩⟩ : Field)) (b := 1) (blk := bxB 2 (fdC (⟨0, ⟨#[]⟩⟩ : Field))) (H' := [rdB l, bxB 2 (fdC (⟨0, ⟨#[]⟩⟩ : Field))]) rfl rfl rfl (by kernel_rfl) (by kernel_rfl) ?_
 refine Zb rfl rfl (Iv 0) rfl (Zb rfl rfl (Iv 11) rfl (Za (Zc (Zv (Z5 (Zu ?_))))))
 rw [show Za2 l n = ((⟨0, ⟨#[]⟩⟩ : Field), 0, 11) from by unfold Za2; (repeat' split) <;> first | rfl | omega | (simp_all; done) | (simp_all; omega) | (refine Prod.ext ?_ (Prod.ext (by dsimp only; omega) rfl); dsimp only; congr 2; congr 1; omega)]
 exact Zm (v := .tuple #[fdV (⟨0, ⟨#[]⟩⟩ : Field), Iv 0, Iv 11]) (by kernel_rfl) rfl rfl (by simp [Zac, rdB]) ⟨(Zbd (by kernel_rfl) rfl), rfl, rfl, trivial⟩
 refine Zn (vx := Iv (65536 * ((((l.getD 1 0).toNat) : Nat) : Int) + 256 * ((((l.getD 2 0).toNat) : Nat) : Int) + ((((l.getD 3 0).toNat) : Nat) : Int))) (vy := Iv 65536) rfl rfl (.bool false) rfl rfl (Zf8 (by omega)) ?_
 refine Zk rfl rfl (.bool false) rfl (Za (Zc (Zx rfl (Zai (Zc (Zg (Zg (Zi (Zd rfl rfl (slv 0 0 n c) rfl ?_)))))))))
 refine Zb7 (p := slv 0 0 n c) (v := Iv (n : Nat)) rfl rfl rfl rfl ?_
 refine Zn (vx := Iv (n : Nat)) (vy := Iv 4) rfl rfl (Iv ((n : Nat) - 4)) rfl rfl (Zku (by omega) (by omega) (by omega)) ?_
 refine Zd rfl rfl (Iv (65536 * ((((l.getD 1 0).toNat) : Nat) : Int) + 256 * ((((l.getD 2 0).toNat) : Nat) : Int) + ((((l.getD 3 0).toNat) : Nat) : Int))) rfl ?_
 by_cases h4 : (n : Nat) - 4 < 65536 * ((((l.getD 1 0).toNat) : Nat) : Int) + 256 * ((((l.getD 2 0).toNat) : Nat) : Int) + ((((l.getD 3 0).toNat) : Nat) : Int)
 refine Zn (vx := Iv ((n : Nat) - 4)) (vy := Iv (65536 * ((((l.getD 1 0).toNat) : Nat) : Int) + 256 * ((((l.getD 2 0).toNat) : Nat) : Int) + ((((l.getD 3 0).toNat) : Nat) : Int))) rfl rfl (.bool true) rfl rfl (Zdt (by omega)) ?_
 refine Za (Zc (Z0 rfl (Zg (Zi ?_))))
 refine Zaw (vs := []) (v := fdV (⟨0, ⟨#[]⟩⟩ : Field)) rfl rfl rfl (by kernel_rfl) ?_
 refine Zr (p := pt 1 0) (v := fdV (⟨0, ⟨#[]⟩⟩ : Field)) (b := 1) (blk := bxB 2 (fdC (⟨0, ⟨#[]⟩⟩ : Field))) (H' := [rdB l, bxB 2 (fdC (⟨0, ⟨#[]⟩⟩ : Field))]) rfl rfl rfl (by kernel_rfl) (by kernel_rfl) ?_
 refine Zb rfl rfl (Iv 0) rfl (Zb rfl rfl (Iv 10) rfl (Za (Zc (Zv (Z5 (Zu ?_))))))
 rw [show Za2 l n = ((⟨0, ⟨#[]⟩⟩ : Field), 0, 10) from by unfold Za2; (repeat' split) <;> first | rfl | omega | (simp_all; done) | (simp_all; omega) | (refine Prod.ext ?_ (Prod.ext (by dsimp only; omega) rfl); dsimp only; congr 2; congr 1; omega)]
 exact Zm (v := .tuple #[fdV (⟨0, ⟨#[]⟩⟩ : Field), Iv 0, Iv 10]) (by kernel_rfl) rfl rfl (by simp [Zac, rdB]) ⟨(Zbd (by kernel_rfl) rfl), rfl, rfl, trivial⟩
 refine Zn (vx := Iv ((n : Nat) - 4)) (vy := Iv (65536 * ((((l.getD 1 0).toNat) : Nat) : Int) + 256 * ((((l.getD 2 0).toNat) : Nat) : Int) + ((((l.getD 3 0).toNat) : Nat) : Int))) rfl rfl (.bool false) rfl rfl (Zdh (by omega)) ?_
 refine Za (Zc (Zx rfl (Zai (Zc (Zg ?_)))))
 refine Zj2 (by kernel_rfl) ?_
 refine Zd rfl rfl (slv 0 0 n c) rfl ?_
 refine Zbk (b := 0) (o := 0) (j := 0) (m := n) (c := c) (sz := 1) (i := 0) (k := .i64) rfl rfl rfl rfl rfl (by omega) (by omega) (by omega) ?_
 refine Zo (p := pt 0 0) (v := w8 (l.getD 0 0)) rfl rfl rfl (Zd3 rfl rfl rfl (by have := hn; omega)) ?_
 have hw8 := BitVec.isLt (l.getD 0 0)
 refine Zdb (w := w8 (l.getD 0 0)) (v := Iv ((((l.getD 0 0).toNat) : Nat) : Int)) rfl rfl rfl (Zju rfl rfl (by have := (l.getD 0 0).isLt; omega) (by have := (l.getD 0 0).isLt; omega)) ?_
 refine Zd rfl rfl (slv 0 0 n c) rfl (Zd rfl rfl (Iv (65536 * ((((l.getD 1 0).toNat) : Nat) : Int) + 256 * ((((l.getD 2 0).toNat) : Nat) : Int) + ((((l.getD 3 0).toNat) : Nat) : Int))) rfl ?_)
 refine Zn (vx := Iv 4) (vy := Iv (65536 * ((((l.getD 1 0).toNat) : Nat) : Int) + 256 * ((((l.getD 2 0).toNat) : Nat) : Int) + ((((l.getD 3 0).toNat) : Nat) : Int))) rfl rfl (Iv (65536 * ((((l.getD 1 0).toNat) : Nat) : Int) + 256 * ((((l.getD 2 0).toNat) : Nat) : Int) + ((((l.getD 3 0).toNat) : Nat) : Int) + 4)) rfl rfl (Za7 (by omega) (by omega) (by omega)) ?_
 refine Zec (p := slv 0 0 n c) (vl := some (Iv 4)) (vh := some (Iv (65536 * ((((l.getD 1 0).toNat) : Nat) : Int) + 256 * ((((l.getD 2 0).toNat) : Nat) : Int) + ((((l.getD 3 0).toNat) : Nat) : Int) + 4))) (v := slv 0 4 (65536 * ((l.getD 1 0).toNat) + 256 * ((l.getD 2 0).toNat) + ((l.getD 3 0).toNat)) (c - 4)) rfl rfl rfl rfl rfl (Zpl (sz := 1) (l := 4) (h := 65536 * ((l.getD 1 0).toNat) + 256 * ((l.getD 2 0).toNat) + ((l.getD 3 0).toNat) + 4) rfl rfl rfl (by omega) (by omega) (by omega) (by omega) rfl (by omega) (by omega) (by omega)) ?_
 refine Zc6 (p := slv 0 4 (65536 * ((l.getD 1 0).toNat) + 256 * ((l.getD 2 0).toNat) + ((l.getD 3 0).toNat)) (c - 4)) (v := .string (Zl ((l.drop 4).take (65536 * ((l.getD 1 0).toNat) + 256 * ((l.getD 2 0).toNat) + ((l.getD 3 0).toNat))))) rfl rfl rfl (Zmp rfl rfl rfl rfl rfl (by have := hn; omega) rfl) ?_
 refine Zaw (vs := [(0, Iv ((((l.getD 0 0).toNat) : Nat) : Int)), (1, .string (Zl ((l.drop 4).take (65536 * ((l.getD 1 0).toNat) + 256 * ((l.getD 2 0).toNat) + ((l.getD 3 0).toNat)))))]) (v := fdV (⟨((((l.getD 0 0).toNat) : Nat) : Int), (Zl ((l.drop 4).take (65536 * ((l.getD 1 0).toNat) + 256 * ((l.getD 2 0).toNat) + ((l.getD 3 0).toNat))))⟩ : Field)) rfl rfl rfl (by kernel_rfl) ?_
 refine Zd rfl rfl (Iv (65536 * ((((l.getD 1 0).toNat) : Nat) : Int) + 256 * ((((l.getD 2 0).toNat) : Nat) : Int) + ((((l.getD 3 0).toNat) : Nat) : Int))) rfl ?_
 refine Zn (vx := Iv 4) (vy := Iv (65536 * ((((l.getD 1 0).toNat) : Nat) : Int) + 256 * ((((l.getD 2 0).toNat) : Nat) : Int) + ((((l.getD 3 0).toNat) : Nat) : Int))) rfl rfl (Iv (65536 * ((((l.getD 1 0).toNat) : Nat) : Int) + 256 * ((((l.getD 2 0).toNat) : Nat) : Int) + ((((l.getD 3 0).toNat) : Nat) : Int) + 4)) rfl rfl (Za7 (by omega) (by omega) (by omega)) ?_
 refine Zr (p := pt 1 0) (v := fdV (⟨((((l.getD 0 0).toNat) : Nat) : Int), (Zl ((l.drop 4).take (65536 * ((l.getD 1 0).toNat) + 256 * ((l.getD 2 0).toNat) + ((l.getD 3 0).toNat))))⟩ : Field)) (b := 1) (blk := bxB 2 (fdC (⟨((((l.getD 0 0).toNat) : Nat) : Int), (Zl ((l.drop 4).take (65536 * ((l.getD 1 0).toNat) + 256 * ((l.getD 2 0).toNat) + ((l.getD 3 0).toNat))))⟩ : Field))) (H' := [rdB l, bxB 2 (fdC (⟨((((l.getD 0 0).toNat) : Nat) : Int), (Zl ((l.drop 4).take (65536 * ((l.getD 1 0).toNat) + 256 * ((l.getD 2 0).toNat) + ((l.getD 3 0).toNat))))⟩ : Field))]) rfl rfl rfl (by kernel_rfl) (by kernel_rfl) ?_
 refine Zb rfl rfl (Iv (65536 * ((((l.getD 1 0).toNat) : Nat) : Int) + 256 * ((((l.getD 2 0).toNat) : Nat) : Int) + ((((l.getD 3 0).toNat) : Nat) : Int) + 4)) rfl (Zb rfl rfl (Iv 0) rfl ?_)
 refine Zig (Zki [[], [0], [0, 1], [0, 1, 2], [], [], [5], [4, 5, 6], [4, 5, 6, 7], [0, 1, 2, 3, 4, 5, 6, 7, 8], [], [10], [0, 1, 2, 3, 4, 5, 6, 7, 8, 9], [0, 1, 2, 3, 4, 5, 6, 7, 8, 9, 10, 11, 12], [0, 1, 2, 3, 4, 5, 6, 7, 8, 9, 10, 11, 12, 13]] (by kernel_rfl) (by kernel_rfl)) ?_
 refine Zc (Zv (Zu ?_))
 rw [show Za2 l n = ((⟨((((l.getD 0 0).toNat) : Nat) : Int), (Zl ((l.drop 4).take (65536 * ((l.getD 1 0).toNat) + 256 * ((l.getD 2 0).toNat) + ((l.getD 3 0).toNat))))⟩ : Field), 65536 * ((((l.getD 1 0).toNat) : Nat) : Int) + 256 * ((((l.getD 2 0).toNat) : Nat) : Int) + ((((l.getD 3 0).toNat) : Nat) : Int) + 4, 0) from by unfold Za2; (repeat' split) <;> first | rfl | omega | (simp_all; done) | (simp_all; omega) | (refine Prod.ext ?_ (Prod.ext (by dsimp only; omega) rfl); dsimp only; congr 2; congr 1; omega)]
 exact Zm (v := .tuple #[fdV (⟨((((l.getD 0 0).toNat) : Nat) : Int), (Zl ((l.drop 4).take (65536 * ((l.getD 1 0).toNat) + 256 * ((l.getD 2 0).toNat) + ((l.getD 3 0).toNat))))⟩ : Field), Iv (65536 * ((((l.getD 1 0).toNat) : Nat) : Int) + 256 * ((((l.getD 2 0).toNat) : Nat) : Int) + ((((l.getD 3 0).toNat) : Nat) : Int) + 4), Iv 0]) (by kernel_rfl) rfl rfl (by simp [Zac, rdB]) ⟨(Zbd (by kernel_rfl) rfl), rfl, rfl, trivial⟩
end Go.Flat
