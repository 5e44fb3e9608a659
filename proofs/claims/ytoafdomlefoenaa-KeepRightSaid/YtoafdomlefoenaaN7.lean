/- Walks. -/
import Derived.Test.YtoafdomlefoenaaN3
import Derived.Test.YtoafdomlefoenaaFlatK
set_option linter.unusedVariables false
set_option linter.unusedSimpArgs false
set_option maxRecDepth 20000
namespace Go.Flat
open Go.Proofs
variable {G : Glob}
theorem Zpt : IsOver Try.prog 72 36 := ⟨⟨23, 4, 36, by kernel_rfl, fun w => Zb6 (P := Try.prog) (t := 36) rfl w, fun args w => run_callFunc_extern (fn := Try.f72) rfl (by kernel_rfl) (by kernel_rfl) (by kernel_rfl) (by kernel_rfl) args w⟩⟩
theorem Zmc (l : List Claim) (x : Claim) (n : Nat) (hn : l.length = n) (hN : n ≤ 1048576) : Zar Try.prog G 67 [slv 0 0 n n, Iv (n : Nat), slv 1 0 1 1] [rwB Zg l, rwL Zg [x]] (slv 0 0 (n + 1) (n + 1)) [rwB Zg (l ++ [x]), rwL Zg [x]] := by
  refine Zcu (fn := Try.f67) (nt := 95) rfl rfl rfl rfl ?_
  refine Zj (Zl (Zc (.slice none 0 0) (Zd (Zf (Zj (Zl (Zb (slv 0 0 n n) (Zb (Iv (n : Nat)) ?_))))))))
  refine Zc1 (p := slv 0 0 n n) (vl := some (Iv (n : Nat))) (vh := none) (v := slv 0 (n * 36) 0 0) rfl rfl rfl rfl rfl (Zed (sz := 36) (l := n) rfl rfl rfl (by omega) (by omega) (by omega) rfl (by omega) (by omega) (by omega)) ?_
  refine Zd (Zf (Zj (Zl (Zb (slv 1 0 1 1) (Zbd (p := slv 1 0 1 1) (v := Iv 1) (Zc (Iv 1) (Zd (Zf (Zj (Zj (Zl (Zb (Iv 1) ?_))))))))))))
  refine Zn (vx := Iv 1) (vy := Iv 0) rfl rfl (.bool false) rfl rfl (Zbj (by omega)) ?_
  refine Zd (Zf (Zw rfl (Z8 (Zf (Zj (Zl (Zb (slv 0 0 n n) (Zbd (p := slv 0 0 n n) (v := Iv (n : Nat)) (Zc (Iv (n : Nat)) (Zd (Zf (Zj (Zj (Zl (Zb (Iv (n : Nat)) (Zb (Iv (n : Nat)) ?_))))))))))))))))
  refine Zn (vx := Iv (n : Nat)) (vy := Iv (n : Nat)) rfl rfl (.bool true) rfl rfl (Zaw (by omega)) ?_
  refine Zd (Zf (Z5 rfl (Zj (Zl (Zb (slv 0 0 n n) (Zb (slv 1 0 1 1) ?_))))))
  have hl2 : (l ++ [x]).length = n + 1 := by have := hn; have := (rfl : _ = 1); first | (rw [List.length_append]; omega) | (rw [List.length_append, List.length_take]; omega) | (simp; omega) | simp
  refine Zhu (p := slv 0 0 n n) (q := slv 1 0 1 1) (v := slv 0 0 (n + 1) (n + 1)) (b := 0) (blk := rwB Zg (l ++ [x])) (H' := [rwB Zg (l ++ [x]), rwL Zg [x]]) rfl rfl rfl (.inl ⟨_, rfl⟩) rfl rfl (Zkx Zg (by_ := 64) (k := 1) (n' := n + 1) (ms := [x]) (fun _ => rfl) rfl rfl (by kernel_rfl) rfl rfl (by have := hn; omega) (by omega) (by decide) (by omega)) rfl (by kernel_rfl) ?_
  refine Zc (slv 0 0 (n + 1) (n + 1)) (Zd (Zf (Zq (Z2 (Zp ?_)))))
  exact Zm (v := slv 0 0 (n + 1) (n + 1)) rfl rfl rfl (by kernel_rfl) ⟨rfl, rfl, rfl, by first | omega | exact Nat.le_refl _ | exact Nat.zero_le _ | (dsimp only; omega), by first | omega | exact Nat.le_refl _ | exact Nat.zero_le _ | (dsimp only; omega)⟩
theorem Zmd (l : List Claim) (x : Claim) (n i : Nat) (hn : l.length = n) (hi : i < n) (hN : n ≤ 1048576) : Zar Try.prog G 67 [slv 0 0 n n, Iv i, slv 1 0 1 1] [rwB Zg l, rwL Zg [x]] (slv 0 0 (n + 1) (n + 1)) [rwB Zg (l.take i ++ x :: l.drop i), rwL Zg [x]] := by
  refine Zpg (cod := Zg) (fn := Try.f67) (nt := 95) rfl rfl rfl rfl (fun _ => rfl) l x n i hn hi ?_ ?_
  · intro c' hc
    refine Zj (Zl (Zc (.slice none 0 0) (Zd (Zf (Zj (Zl (Zb (slv 0 0 n c') (Zb (Iv (i : Nat)) ?_))))))))
    refine Zc1 (p := slv 0 0 n c') (vl := some (Iv (i : Nat))) (vh := none) (v := slv 0 (i * 36) (n - i) (c' - i)) rfl rfl rfl rfl rfl (Zed (sz := 36) (l := i) rfl rfl rfl (by omega) (by omega) (by omega) rfl (by omega) (by omega) (by omega)) ?_
    refine Zd (Zf (Zj (Zl (Zb (slv 1 0 1 1) (Zbd (p := slv 1 0 1 1) (v := Iv 1) (Zc (Iv 1) (Zd (Zf (Zj (Zj (Zl (Zb (Iv 1) ?_))))))))))))
    refine Zn (vx := Iv 1) (vy := Iv 0) rfl rfl (.bool false) rfl rfl (Zbj (by omega)) ?_
    refine Zd (Zf (Zw rfl (Z8 (Zf (Zj (Zl (Zb (slv 0 0 n c') (Zbd (p := slv 0 0 n c') (v := Iv (n : Nat)) (Zc (Iv (n : Nat)) (Zd (Zf (Zj (Zj (Zl (Zb (Iv (i : Nat)) (Zb (Iv (n : Nat)) ?_))))))))))))))))
    refine Zn (vx := Iv (i : Nat)) (vy := Iv (n : Nat)) rfl rfl (.bool false) rfl rfl (Zbj (by omega)) ?_
    refine Zd (Zf (Zw rfl (Z8 (Zf (Zj (Zj (Zl (Zb (Iv (n : Nat)) (Zb (Iv 1) ?_)))))))))
    refine Zn (vx := Iv (n : Nat)) (vy := Iv 1) rfl rfl (Iv ((n : Nat) + 1)) rfl rfl (Zci (by omega) (by omega) (by omega)) ?_
    refine Zb (slv 0 0 n c') ?_
    refine Zxf (p := slv 0 0 n c') (v := Iv (c' : Nat)) rfl rfl rfl (by kernel_rfl) ?_
    refine Zn (vx := Iv ((n : Nat) + 1)) (vy := Iv (c' : Nat)) rfl rfl (.bool false) rfl rfl (Zgq (by omega)) ?_
    refine Zd (Zf (Zw rfl (Z8 (Zf (Zj (Zl (Zb (slv 0 0 n c') (Zb (Iv (n : Nat)) (Zb (Iv 1) ?_)))))))))
    refine Zn (vx := Iv (n : Nat)) (vy := Iv 1) rfl rfl (Iv ((n : Nat) + 1)) rfl rfl (Zci (by omega) (by omega) (by omega)) ?_
    refine Zc1 (p := slv 0 0 n c') (vl := none) (vh := some (Iv ((n : Nat) + 1))) (v := slv 0 0 (n + 1) c') rfl rfl rfl rfl rfl (Zf0 (h := n + 1) rfl rfl (by omega) (by omega) rfl) ?_
    refine Zc (slv 0 0 (n + 1) c') (Zd (Zf (Zj (Zj (Zl (Zb (slv 1 0 1 1) (Zb (slv 0 0 (n + 1) c') (Zb (Iv (i : Nat)) (Zb (Iv 1) ?_)))))))))
    refine Zn (vx := Iv (i : Nat)) (vy := Iv 1) rfl rfl (Iv ((i : Nat) + 1)) rfl rfl (Zci (by omega) (by omega) (by omega)) ?_
    refine Zc1 (p := slv 0 0 (n + 1) c') (vl := some (Iv ((i : Nat) + 1))) (vh := none) (v := slv 0 ((i + 1) * 36) (n - i) (c' - i - 1)) rfl rfl rfl rfl rfl (Zed (sz := 36) (l := i + 1) rfl rfl rfl (by omega) (by omega) (by omega) rfl (by omega) (by omega) (by omega)) ?_
    refine Zyd (sz := 36) Zpt (p := slv 1 0 1 1) (q := slv 0 ((i + 1) * 36) (n - i) (c' - i - 1)) (v := .bool false) rfl rfl rfl rfl (Zvb Zg (n := n) (i := i) rfl rfl rfl (by decide) hi (by first | (show _ ≤ (Zg.row l ++ List.replicate ((c' - n) * 36) dead).length; rw [List.length_append, Zg.row_len, List.length_replicate, hn]; show (n + 1) * 36 ≤ n * 36 + (c' - n) * 36; omega) | (show _ ≤ (splice (Zg.row l ++ List.replicate ((c' - n) * 36) dead) _ _).length; rw [Zco (by rw [Zg.row_len, List.length_drop, List.length_append, Zg.row_len, List.length_replicate, hn]; show (i + 1) * 36 + (n - i) * 36 ≤ n * 36 + (c' - n) * 36; omega), List.length_append, Zg.row_len, List.length_replicate, hn]; show (n + 1) * 36 ≤ n * 36 + (c' - n) * 36; omega)) (by omega) (by omega)) ?_
    refine Zhv (vx := .bool false) rfl rfl (.bool true) rfl Zdx ?_
    refine Zd (Zf (Z5 rfl (Zj ?_)))
    refine Zdg (by kernel_rfl) ?_
    refine Zb (slv 0 0 (n + 1) c') (Zb (Iv (i : Nat)) (Zb (Iv 1) ?_))
    refine Zn (vx := Iv (i : Nat)) (vy := Iv 1) rfl rfl (Iv ((i : Nat) + 1)) rfl rfl (Zci (by omega) (by omega) (by omega)) ?_
    refine Zc1 (p := slv 0 0 (n + 1) c') (vl := some (Iv ((i : Nat) + 1))) (vh := none) (v := slv 0 ((i + 1) * 36) (n - i) (c' - i - 1)) rfl rfl rfl rfl rfl (Zed (sz := 36) (l := i + 1) rfl rfl rfl (by omega) (by omega) (by omega) rfl (by omega) (by omega) (by omega)) ?_
    refine Zb (slv 0 0 (n + 1) c') (Zb (Iv (i : Nat)) ?_)
    refine Zc1 (p := slv 0 0 (n + 1) c') (vl := some (Iv (i : Nat))) (vh := none) (v := slv 0 (i * 36) (n + 1 - i) (c' - i)) rfl rfl rfl rfl rfl (Zed (sz := 36) (l := i) rfl rfl rfl (by omega) (by omega) (by omega) rfl (by omega) (by omega) (by omega)) ?_
    refine Zoj (p := slv 0 ((i + 1) * 36) (n - i) (c' - i - 1)) (q := slv 0 (i * 36) (n + 1 - i) (c' - i)) (v := Iv (((n : Nat) : Int) - ((i : Nat) : Int))) (b := 0) (blk := (exB 36 (splice (Zg.row l ++ List.replicate ((c' - n) * 36) dead) ((i + 1) * 36) (Zg.row (l.drop i))))) (H' := [(exB 36 (splice (Zg.row l ++ List.replicate ((c' - n) * 36) dead) ((i + 1) * 36) (Zg.row (l.drop i)))), rwL Zg [x]]) rfl rfl rfl rfl (Zr6 (cod := Zg) (by_ := 64) (l := l) (n := n) (i := i) (sz := 36) (A := (exB 36 (Zg.row l ++ List.replicate ((c' - n) * 36) dead))) (B := (exB 36 (Zg.row l ++ List.replicate ((c' - n) * 36) dead))) (D := List.replicate ((c' - n) * 36) dead) (fun _ => rfl) rfl rfl rfl rfl rfl rfl hn hi (by omega) (by omega) (by omega) (by omega) (by first | (show _ ≤ (Zg.row l ++ List.replicate ((c' - n) * 36) dead).length; rw [List.length_append, Zg.row_len, List.length_replicate, hn]; show (n + 1) * 36 ≤ n * 36 + (c' - n) * 36; omega) | (show _ ≤ (splice (Zg.row l ++ List.replicate ((c' - n) * 36) dead) _ _).length; rw [Zco (by rw [Zg.row_len, List.length_drop, List.length_append, Zg.row_len, List.length_replicate, hn]; show (i + 1) * 36 + (n - i) * 36 ≤ n * 36 + (c' - n) * 36; omega), List.length_append, Zg.row_len, List.length_replicate, hn]; show (n + 1) * 36 ≤ n * 36 + (c' - n) * 36; omega)) (by show _ ≤ (Zg.row l ++ List.replicate ((c' - n) * 36) dead).length; rw [List.length_append, Zg.row_len, List.length_replicate, hn]; show i * 36 + (n + 1 - i) * 36 ≤ n * 36 + (c' - n) * 36; omega) (by omega)) (by kernel_rfl) ?_
    refine Za9 (Zap [[], [], [], [1, 2], [0, 1, 2, 3], [], [], [5, 6], [0, 1, 2, 3, 4, 5, 6, 7]] (by kernel_rfl) (by kernel_rfl)) ?_
    refine Zf (Zj (Zl (Zb (slv 0 0 (n + 1) c') (Zb (Iv (i : Nat)) ?_))))
    refine Zc1 (p := slv 0 0 (n + 1) c') (vl := some (Iv (i : Nat))) (vh := none) (v := slv 0 (i * 36) (n + 1 - i) (c' - i)) rfl rfl rfl rfl rfl (Zed (sz := 36) (l := i) rfl rfl rfl (by omega) (by omega) (by omega) rfl (by omega) (by omega) (by omega)) ?_
    refine Zb (slv 1 0 1 1) ?_
    refine Zoj (p := slv 0 (i * 36) (n + 1 - i) (c' - i)) (q := slv 1 0 1 1) (v := Iv 1) (b := 0) (blk := (exB 36 (splice (splice (Zg.row l ++ List.replicate ((c' - n) * 36) dead) ((i + 1) * 36) (Zg.row (l.drop i))) (i * 36) (Zg.row [x])))) (H' := [(exB 36 (splice (splice (Zg.row l ++ List.replicate ((c' - n) * 36) dead) ((i + 1) * 36) (Zg.row (l.drop i))) (i * 36) (Zg.row [x]))), rwL Zg [x]]) rfl rfl rfl rfl (Zo4 (cod := Zg) (by_ := 64) (x := x) (n := n) (i := i) (sz := 36) (A := (exB 36 (splice (Zg.row l ++ List.replicate ((c' - n) * 36) dead) ((i + 1) * 36) (Zg.row (l.drop i))))) (fun _ => rfl) rfl rfl rfl rfl rfl hi (by omega) (by omega) (by first | (show _ ≤ (Zg.row l ++ List.replicate ((c' - n) * 36) dead).length; rw [List.length_append, Zg.row_len, List.length_replicate, hn]; show (n + 1) * 36 ≤ n * 36 + (c' - n) * 36; omega) | (show _ ≤ (splice (Zg.row l ++ List.replicate ((c' - n) * 36) dead) _ _).length; rw [Zco (by rw [Zg.row_len, List.length_drop, List.length_append, Zg.row_len, List.length_replicate, hn]; show (i + 1) * 36 + (n - i) * 36 ≤ n * 36 + (c' - n) * 36; omega), List.length_append, Zg.row_len, List.length_replicate, hn]; show (n + 1) * 36 ≤ n * 36 + (c' - n) * 36; omega)) rfl) (by kernel_rfl) ?_
    refine Zd (Zf (Zj (Zl (Zb (slv 0 0 (n + 1) c') (Zc (slv 0 0 (n + 1) c') (Zd (Zf (Zq (Z2 ?_)))))))))
    exact Zvs (v := slv 0 0 (n + 1) c') rfl ⟨⟨List.drop 36 (List.replicate ((c' - n) * 36) dead), congrArg (fun q => some (exB 36 q)) (Zyv rfl hn hi (by rw [List.length_replicate]; omega)), by rw [List.length_drop, List.length_replicate]; show (n + 1) * 36 + _ = c' * 36; omega⟩, rfl, rfl⟩
  refine Zbo 1 (H' := [(exB 36 (Zg.row l)), rwL Zg [x], hole]) rfl ?_
  refine Zj (Zl (Zc (.slice none 0 0) (Zd (Zf (Zj (Zl (Zb (slv 0 0 n n) (Zb (Iv (i : Nat)) ?_))))))))
  refine Zc1 (p := slv 0 0 n n) (vl := some (Iv (i : Nat))) (vh := none) (v := slv 0 (i * 36) (n - i) (n - i)) rfl rfl rfl rfl rfl (Zed (sz := 36) (l := i) rfl rfl rfl (by omega) (by omega) (by omega) rfl (by omega) (by omega) (by omega)) ?_
  refine Zd (Zf (Zj (Zl (Zb (slv 1 0 1 1) (Zbd (p := slv 1 0 1 1) (v := Iv 1) (Zc (Iv 1) (Zd (Zf (Zj (Zj (Zl (Zb (Iv 1) ?_))))))))))))
  refine Zn (vx := Iv 1) (vy := Iv 0) rfl rfl (.bool false) rfl rfl (Zbj (by omega)) ?_
  refine Zd (Zf (Zw rfl (Z8 (Zf (Zj (Zl (Zb (slv 0 0 n n) (Zbd (p := slv 0 0 n n) (v := Iv (n : Nat)) (Zc (Iv (n : Nat)) (Zd (Zf (Zj (Zj (Zl (Zb (Iv (i : Nat)) (Zb (Iv (n : Nat)) ?_))))))))))))))))
  refine Zn (vx := Iv (i : Nat)) (vy := Iv (n : Nat)) rfl rfl (.bool false) rfl rfl (Zbj (by omega)) ?_
  refine Zd (Zf (Zw rfl (Z8 (Zf (Zj (Zj (Zl (Zb (Iv (n : Nat)) (Zb (Iv 1) ?_)))))))))
  refine Zn (vx := Iv (n : Nat)) (vy := Iv 1) rfl rfl (Iv ((n : Nat) + 1)) rfl rfl (Zci (by omega) (by omega) (by omega)) ?_
  refine Zb (slv 0 0 n n) ?_
  refine Zxf (p := slv 0 0 n n) (v := Iv (n : Nat)) rfl rfl rfl (by kernel_rfl) ?_
  refine Zn (vx := Iv ((n : Nat) + 1)) (vy := Iv (n : Nat)) rfl rfl (.bool true) rfl rfl (Zhn (by omega)) ?_
  refine Zd (Zf (Z5 rfl (Zj (Zl (Zb (slv 0 0 n n) (Zb (Iv (i : Nat)) ?_))))))
  refine Zc1 (p := slv 0 0 n n) (vl := none) (vh := some (Iv (i : Nat))) (v := slv 0 0 i n) rfl rfl rfl rfl rfl (Zf0 (h := i) rfl rfl (by omega) (by omega) rfl) ?_
  refine Zb (Iv (n : Nat)) (Zb (Iv 1) ?_)
  refine Zn (vx := Iv (n : Nat)) (vy := Iv 1) rfl rfl (Iv ((n : Nat) + 1)) rfl rfl (Zci (by omega) (by omega) (by omega)) ?_
  refine Zb (Iv (i : Nat)) ?_
  refine Zn (vx := Iv ((n : Nat) + 1)) (vy := Iv (i : Nat)) rfl rfl (Iv (((n : Nat) : Int) - ((i : Nat) : Int) + 1)) rfl rfl (Zky (by omega) (by omega) (by omega)) ?_
  refine Zyc (p := slv 0 0 i n) (q := Iv (((n : Nat) : Int) - ((i : Nat) : Int) + 1)) (v := slv 2 0 (n + 1) (n + 1)) (blk := (mxW 36 ((((Zg.row l).drop 0).take (i * 36)) ++ List.replicate ((n + 1 - i) * 36) dead))) (nid := 2) (H' := [(exB 36 (Zg.row l)), rwL Zg [x], (mxW 36 ((((Zg.row l).drop 0).take (i * 36)) ++ List.replicate ((n + 1 - i) * 36) dead))]) rfl rfl rfl rfl rfl (Zvv Zg (by_ := 64) rfl rfl rfl rfl hn hi (by omega) (by omega) (by decide) (by omega) rfl) (by kernel_rfl) ?_
  refine Zc (slv 2 0 (n + 1) (n + 1)) (Zd (Zf (Zj (Zl (Zb (slv 2 0 (n + 1) (n + 1)) (Zb (Iv (i : Nat)) ?_))))))
  refine Zc1 (p := slv 2 0 (n + 1) (n + 1)) (vl := some (Iv (i : Nat))) (vh := none) (v := slv 2 (i * 36) (n + 1 - i) (n + 1 - i)) rfl rfl rfl rfl rfl (Zed (sz := 36) (l := i) rfl rfl rfl (by omega) (by omega) (by omega) rfl (by omega) (by omega) (by omega)) ?_
  refine Zb (slv 1 0 1 1) ?_
  refine Zoj (p := slv 2 (i * 36) (n + 1 - i) (n + 1 - i)) (q := slv 1 0 1 1) (v := Iv 1) (b := 2) (blk := (mxW 36 (splice ((((Zg.row l).drop 0).take (i * 36)) ++ List.replicate ((n + 1 - i) * 36) dead) (i * 36) (Zg.row [x])))) (H' := [(exB 36 (Zg.row l)), rwL Zg [x], (mxW 36 (splice ((((Zg.row l).drop 0).take (i * 36)) ++ List.replicate ((n + 1 - i) * 36) dead) (i * 36) (Zg.row [x])))]) rfl rfl rfl rfl (Zo4 (cod := Zg) (by_ := 64) (x := x) (n := n) (i := i) (sz := 36) (A := (mxW 36 ((((Zg.row l).drop 0).take (i * 36)) ++ List.replicate ((n + 1 - i) * 36) dead))) (fun _ => rfl) rfl rfl rfl rfl rfl hi (by omega) (by omega) (by first | exact Nat.le_of_eq (Eq.symm (by rw [List.length_append, List.length_take, List.length_drop, Zg.row_len, List.length_replicate, hn]; show min (i * 36) (n * 36 - 0) + (n + 1 - i) * 36 = (n + 1) * 36; omega : (((Zg.row l).drop 0).take (i * 36) ++ List.replicate ((n + 1 - i) * 36) dead).length = (n + 1) * 36)) | (show _ ≤ (splice (((Zg.row l).drop 0).take (i * 36) ++ List.replicate ((n + 1 - i) * 36) dead) _ _).length; rw [Zco (by rw [(by rw [List.length_append, List.length_take, List.length_drop, Zg.row_len, List.length_replicate, hn]; show min (i * 36) (n * 36 - 0) + (n + 1 - i) * 36 = (n + 1) * 36; omega : (((Zg.row l).drop 0).take (i * 36) ++ List.replicate ((n + 1 - i) * 36) dead).length = (n + 1) * 36), Zg.row_len]; show i * 36 + 1 * 36 ≤ (n + 1) * 36; omega), (by rw [List.length_append, List.length_take, List.length_drop, Zg.row_len, List.length_replicate, hn]; show min (i * 36) (n * 36 - 0) + (n + 1 - i) * 36 = (n + 1) * 36; omega : (((Zg.row l).drop 0).take (i * 36) ++ List.replicate ((n + 1 - i) * 36) dead).length = (n + 1) * 36)]; exact Nat.le_refl _)) rfl) (by kernel_rfl) ?_
  refine Zd (Zf (Zj ?_))
  refine Zdg (by kernel_rfl) ?_
  refine Zb (slv 2 0 (n + 1) (n + 1)) (Zb (Iv (i : Nat)) (Zb (Iv 1) ?_))
  refine Zn (vx := Iv (i : Nat)) (vy := Iv 1) rfl rfl (Iv ((i : Nat) + 1)) rfl rfl (Zci (by omega) (by omega) (by omega)) ?_
  refine Zc1 (p := slv 2 0 (n + 1) (n + 1)) (vl := some (Iv ((i : Nat) + 1))) (vh := none) (v := slv 2 ((i + 1) * 36) (n - i) (n - i)) rfl rfl rfl rfl rfl (Zed (sz := 36) (l := i + 1) rfl rfl rfl (by omega) (by omega) (by omega) rfl (by omega) (by omega) (by omega)) ?_
  refine Zb (slv 0 0 n n) (Zb (Iv (i : Nat)) ?_)
  refine Zc1 (p := slv 0 0 n n) (vl := some (Iv (i : Nat))) (vh := none) (v := slv 0 (i * 36) (n - i) (n - i)) rfl rfl rfl rfl rfl (Zed (sz := 36) (l := i) rfl rfl rfl (by omega) (by omega) (by omega) rfl (by omega) (by omega) (by omega)) ?_
  refine Zoj (p := slv 2 ((i + 1) * 36) (n - i) (n - i)) (q := slv 0 (i * 36) (n - i) (n - i)) (v := Iv (((n : Nat) : Int) - ((i : Nat) : Int))) (b := 2) (blk := (mxW 36 (splice (splice ((((Zg.row l).drop 0).take (i * 36)) ++ List.replicate ((n + 1 - i) * 36) dead) (i * 36) (Zg.row [x])) ((i + 1) * 36) (Zg.row (l.drop i))))) (H' := [(exB 36 (Zg.row l)), rwL Zg [x], (mxW 36 (splice (splice ((((Zg.row l).drop 0).take (i * 36)) ++ List.replicate ((n + 1 - i) * 36) dead) (i * 36) (Zg.row [x])) ((i + 1) * 36) (Zg.row (l.drop i))))]) rfl rfl rfl rfl (Zr6 (cod := Zg) (by_ := 64) (l := l) (n := n) (i := i) (sz := 36) (A := (mxW 36 (splice ((((Zg.row l).drop 0).take (i * 36)) ++ List.replicate ((n + 1 - i) * 36) dead) (i * 36) (Zg.row [x])))) (B := (exB 36 (Zg.row l))) (D := []) (fun _ => rfl) rfl rfl rfl rfl rfl (List.append_nil _).symm hn hi (by omega) (by omega) (by omega) (by omega) (by first | exact Nat.le_of_eq (Eq.symm (by rw [List.length_append, List.length_take, List.length_drop, Zg.row_len, List.length_replicate, hn]; show min (i * 36) (n * 36 - 0) + (n + 1 - i) * 36 = (n + 1) * 36; omega : (((Zg.row l).drop 0).take (i * 36) ++ List.replicate ((n + 1 - i) * 36) dead).length = (n + 1) * 36)) | (show _ ≤ (splice (((Zg.row l).drop 0).take (i * 36) ++ List.replicate ((n + 1 - i) * 36) dead) _ _).length; rw [Zco (by rw [(by rw [List.length_append, List.length_take, List.length_drop, Zg.row_len, List.length_replicate, hn]; show min (i * 36) (n * 36 - 0) + (n + 1 - i) * 36 = (n + 1) * 36; omega : (((Zg.row l).drop 0).take (i * 36) ++ List.replicate ((n + 1 - i) * 36) dead).length = (n + 1) * 36), Zg.row_len]; show i * 36 + 1 * 36 ≤ (n + 1) * 36; omega), (by rw [List.length_append, List.length_take, List.length_drop, Zg.row_len, List.length_replicate, hn]; show min (i * 36) (n * 36 - 0) + (n + 1 - i) * 36 = (n + 1) * 36; omega : (((Zg.row l).drop 0).take (i * 36) ++ List.replicate ((n + 1 - i) * 36) dead).length = (n + 1) * 36)]; exact Nat.le_refl _)) (by show _ ≤ (Zg.row l).length; rw [Zg.row_len, hn]; show i * 36 + (n - i) * 36 ≤ n * 36; omega) (by omega)) (by kernel_rfl) ?_
  refine Za9 (Zap [[], [], [], [1, 2], [0, 1, 2, 3], [], [], [5, 6], [0, 1, 2, 3, 4, 5, 6, 7]] (by kernel_rfl) (by kernel_rfl)) ?_
  refine Zf (Zj (Zl (Zb (slv 2 0 (n + 1) (n + 1)) (Zc (slv 2 0 (n + 1) (n + 1)) (Zd (Zf (Zq (Z2 ?_))))))))
  exact Zvs (v := slv 2 0 (n + 1) (n + 1)) rfl ⟨congrArg (fun q => some (mxW 36 q)) (Zyw rfl hn hi (by rw [List.length_replicate])), rfl, rfl⟩
theorem Zsu (l : List Claim) (x : Claim) (n i : Nat) (hn : l.length = n) (hi : i ≤ n) (hN : n ≤ 1048576) : Zar Try.prog G 67 [slv 0 0 n n, Iv i, slv 1 0 1 1] [rwB Zg l, rwL Zg [x]] (slv 0 0 (n + 1) (n + 1)) [rwB Zg (l.take i ++ x :: l.drop i), rwL Zg [x]] := by
 rcases Nat.lt_or_ge i n with h | h
 ·exact Zmd l x n i hn h hN
 ·obtain rfl : i = n := by omega
  have := Zmc (G := G) l x i hn hN
  rw [show l.take i ++ x :: l.drop i = l ++ [x] from by subst hn; simp]
  exact this
theorem Zyq {P : Program} {src dst : TypeId} {k' : IntKind} {n : Int} (h1 : P.underlying src = some (.int k')) (h2 : P.underlying dst = some (.int .u64)) (g1 : 0 ≤ n) (g2 : n ≤ 9223372036854775807) : Zki P src dst (.int k' n) = some (.int .u64 n) := by
 rw [Zo2 h1 h2]
 simp only [IntKind.wrap, IntKind.bits, IntKind.signed, Bool.false_and]
 congr 2
 simp
 omega
theorem Zzo {P : Program} {t : TypeId} {u v : Operand} {x z : Int} {yk : IntKind} (h0 : 0 ≤ x) (hz : x / 2 = z) : Zdf P .shr t u v (.int .u64 x) (.int yk 1) = some (.int .u64 z) := Zsx (.inr rfl) (by
 subst hz
 simp only [Op.shift]
 rw [if_neg (by omega)]
 have hm : min ((1 : Int).toNat) IntKind.u64.bits = 1 := rfl
 simp only [Zan, hm]
 rw [Int.fdiv_eq_ediv_of_nonneg _ (Int.le_of_lt (Int.pow_pos (by decide)))]; rfl) rfl

section
variable {l : List Claim} {x : Claim}
theorem Zkf {a b c : Claim} (h1 : Zc4 a b) (h2 : Zc4 b c) : Zc4 a c := by unfold Zc4 at *; omega
theorem Ztl (hR : Zfm l) {i : Nat} : ∀ {j : Nat}, i < j → j < l.length → Zc4 (l.getD i default) (l.getD j default) := by
 intro j
 induction j with
 | zero => intro h; omega
 | succ j ih =>
  intro h1 h2
  have h3 := (hR (j + 1) h2).2 (by omega)
  rw [Nat.add_sub_cancel] at h3
  rcases Nat.lt_or_ge i j with h | h
  ·exact Zkf (ih h (by omega)) h3
  ·obtain rfl : i = j := by omega
   exact h3
theorem Zju (hR : Zfm l) {k h : Nat} (hk : k ≤ h) (hh : h < l.length) (ha : Zc4 (l.getD h default) x) : Zc4 (l.getD k default) x := by
 rcases Nat.lt_or_ge k h with h1 | h1
 ·exact Zkf (Ztl hR h1 hh) ha
 ·obtain rfl : k = h := by omega
  exact ha
theorem Zrc (hR : Zfm l) {k h : Nat} (hk : h ≤ k) (hh : k < l.length) (ha : ¬ Zc4 (l.getD h default) x) : ¬ Zc4 (l.getD k default) x := fun q => ha (Zju hR hk hh q)
def Zcb (l : List Claim) (x : Claim) : Nat := (l.takeWhile fun y => decide (Zc4 y x)).length
theorem Zk7 (l : List Claim) (x : Claim) : Zcb l x ≤ l.length := by
 unfold Zcb
 induction l with
 | nil => simp
 | cons y l ih => rw [List.takeWhile_cons]; split <;> simp <;> omega
theorem Zoh : ∀ {l : List Claim} {i : Nat}, (∀ k, k < i → Zc4 (l.getD k default) x) → i ≤ l.length → (i < l.length → ¬ Zc4 (l.getD i default) x) → Zcb l x = i := by
  intro l
  induction l with
  | nil => intro i _ h2 _; have : i = 0 := by simpa using h2
           subst this; rfl
  | cons y l ih =>
    intro i h1 h2 h3
    unfold Zcb
    cases i with
    | zero =>
      rw [List.takeWhile_cons, if_neg (by simpa using h3 (by simp))]; rfl
    | succ i =>
      have h0 : Zc4 y x := h1 0 (by omega)
      rw [List.takeWhile_cons, if_pos (by simpa using h0), List.length_cons]
      have := ih (i := i) (fun k hk => h1 (k + 1) (by omega)) (by simpa using h2) (fun h => h3 (by simpa using h))
      unfold Zcb at this
      rw [this]
def Zd8 (l : List Claim) (x : Claim) : Bool := decide (Zcb l x < l.length) && decide (Zg4 (l.getD (Zcb l x) default) x = 0)
theorem Zyt {i : Nat} (h : Zcb l x = i) (h1 : i < l.length) (h2 : Zg4 (l.getD i default) x = 0) : Zd8 l x = true := by
 unfold Zd8; rw [h, decide_eq_true h1, decide_eq_true h2]; rfl
theorem Zxa {i : Nat} (h : Zcb l x = i) (h1 : i < l.length → ¬ Zg4 (l.getD i default) x = 0) : Zd8 l x = false := by
 unfold Zd8; rw [h]
 by_cases hi : i < l.length
 ·rw [decide_eq_false (h1 hi), Bool.and_false]
 ·rw [decide_eq_false hi]; rfl
theorem Zxv (h : Zd8 l x = true) : Zcb l x < l.length := by
 unfold Zd8 at h; rw [Bool.and_eq_true] at h; exact of_decide_eq_true h.1
end
def Zaj (l : List Claim) (x : Claim) : List Claim × Int :=
  if Zdb l = 0 ∧ Zd6 x = 0 then (if Zd8 l x then (if Zv (l.getD (Zcb l x) default) x then (l, 0) else ([], 111)) else (l.take (Zcb l x) ++ x :: l.drop (Zcb l x), 0)) else ([], 110)
section
variable {l : List Claim} {x : Claim}
theorem Zxg (h : ¬ (Zdb l = 0 ∧ Zd6 x = 0)) : Zaj l x = ([], 110) := if_neg h
theorem Zzd (h : Zdb l = 0) (h1 : Zd6 x = 0) (h2 : Zd8 l x = true) (h3 : Zv (l.getD (Zcb l x) default) x = false) : Zaj l x = ([], 111) := by unfold Zaj; rw [if_pos ⟨h, h1⟩, if_pos h2, if_neg (by rw [h3]; decide)]
theorem Zze (h : Zdb l = 0) (h1 : Zd6 x = 0) (h2 : Zd8 l x = true) (h3 : Zv (l.getD (Zcb l x) default) x = true) : Zaj l x = (l, 0) := by unfold Zaj; rw [if_pos ⟨h, h1⟩, if_pos h2, if_pos h3]
theorem Zzf (h : Zdb l = 0) (h1 : Zd6 x = 0) (h2 : Zd8 l x = false) : Zaj l x = (l.take (Zcb l x) ++ x :: l.drop (Zcb l x), 0) := by unfold Zaj; rw [if_pos ⟨h, h1⟩, if_neg (by rw [h2]; decide)]
theorem Zsc (n i : Nat) (h : l.length = n) (hi : i ≤ n) : (l.take i ++ x :: l.drop i).length = n + 1 := by simp; omega
end
theorem Zlb (l : List Claim) (n c : Nat) (hn : l.length = n) (hc : n ≤ c) (hb : n ≤ 1048576) (y : Claim) (hR : Zfm l) : Zar Try.prog G 66 [slv 0 0 n c, Zy y, .func (.func 45) #[] #[]] [rwR Zg l] (.tuple #[Iv (Zcb l y : Nat), .bool (Zd8 l y)]) [rwR Zg l] := by
  refine Zcu (fn := Try.f66) (nt := 49) rfl rfl rfl rfl ?_
  refine Zbo 1 (H' := [rwR Zg l, hole]) rfl ?_
  refine Zj (Zl (Zbx (v := Zy y) (b := bxB 36 (Zr y)) (nid := 1) (H' := [rwR Zg l, bxB 36 (Zr y)]) (Zc (Iv 0) (Zc (.bool false) (Zd (Zf (Zj (Zl (Zb (slv 0 0 n c) (Zbd (p := slv 0 0 n c) (v := Iv (n : Nat)) (Zc (Iv (n : Nat)) (Zd (Zf (Zj (Zl (Zb (Iv (n : Nat)) (Zc (Iv 0) (Zc (Iv (n : Nat)) ?_))))))))))))))))))
  refine Zd (Zf (Zj (Zbk ?_)))
  refine Zf5 (fun x : Nat × Nat => match x with | (i, j) => [slv 0 0 n c, Zy y, .func (.func 45) #[] #[], dead, pt 1 0, dead, Iv 0, .bool false, Iv (n : Nat), Iv (i : Nat), Iv (j : Nat), dead, slv 0 0 n c, Iv (n : Nat), Iv (n : Nat)]) (fun x : Nat × Nat => match x with | (i, j) => [rwR Zg l, bxB 36 (Zr y)]) (fun x : Nat × Nat => match x with | (i, j) => (∀ k, k < i → Zc4 (l.getD k default) y) ∧ (∀ k, j ≤ k → k < n → ¬ Zc4 (l.getD k default) y) ∧ i ≤ j ∧ j ≤ n) (fun x : Nat × Nat => match x with | (i, j) => j - i) (0, n) ⟨fun _ h => absurd h (Nat.not_lt_zero _), fun k h h' => absurd h' (Nat.not_lt.2 h), Nat.zero_le _, Nat.le_refl _⟩ ?_ ?_
  · refine Zbv (n := 2) rfl ?_ (by kernel_rfl) (by kernel_rfl)
    repeat (first | exact trivial | refine ⟨.inl rfl, ?_⟩ | refine ⟨.inr ⟨rfl, rfl⟩, ?_⟩ | refine ⟨.inr ⟨congrArg (Value.int .i64) (by first | omega | (dsimp only; omega)), rfl⟩, ?_⟩)
  rintro ⟨i, j⟩ ⟨hA, hB, hC, hD⟩
  dsimp only at *
  refine Zj (Zj (Zl (Zb (Iv (i : Nat)) (Zb (Iv (j : Nat)) ?_))))
  by_cases h1 : (i : Nat) < (j : Nat)
  refine Zn (vx := Iv (i : Nat)) (vy := Iv (j : Nat)) rfl rfl (.bool true) rfl rfl (Zfb (by omega)) ?_
  refine Zd (Zf (Z5 rfl (Z8 (Zf (Zbk (Zj (Zl (Zb (Iv (i : Nat)) (Zb (Iv (j : Nat)) ?_)))))))))
  refine Zn (vx := Iv (i : Nat)) (vy := Iv (j : Nat)) rfl rfl (Iv ((i : Nat) + (j : Nat))) rfl rfl (Zci (by omega) (by omega) (by omega)) ?_
  refine Zvf (w := Iv ((i : Nat) + (j : Nat))) (v := .int .u64 ((i : Nat) + (j : Nat))) rfl rfl rfl (Zyq rfl rfl (by omega) (by omega)) ?_
  refine Zn (vx := .int .u64 ((i : Nat) + (j : Nat))) (vy := .int .u64 1) rfl rfl (.int .u64 ((((i + j) / 2) : Nat) : Int)) rfl rfl (Zzo (by omega) (by omega)) ?_
  refine Zvf (w := .int .u64 ((((i + j) / 2) : Nat) : Int)) (v := Iv ((((i + j) / 2) : Nat) : Int)) rfl rfl rfl (Zyp rfl rfl (by omega) (by omega)) ?_
  refine Zc (Iv ((((i + j) / 2) : Nat) : Int)) (Zd (Zf (Zj ?_)))
  refine Zep (by kernel_rfl) ?_
  refine Zb (.func (.func 45) #[] #[]) (Zb (slv 0 0 n c) (Zb (Iv ((((i + j) / 2) : Nat) : Int)) ?_))
  refine Zdv (b := 0) (o := 0) (j := ((i + j) / 2) * 36) (m := n) (c := c) (sz := 36) (i := ((((i + j) / 2) : Nat) : Int)) (k := .i64) rfl rfl rfl rfl rfl (by omega) (by omega) (by omega) ?_
  refine Zca (p := pt 0 (((i + j) / 2) * 36)) (v := Zy (l.getD ((i + j) / 2) default)) rfl rfl rfl (Zef (n := 0) (m := 36) Zg rfl rfl rfl rfl (by have := hn; omega) (by omega)) ?_
  refine Zk (p := pt 1 0) (v := Zy y) ?_
  refine Z7 (e := []) (nid := 0) (Zlt (G := G) (l.getD ((i + j) / 2) default) y) (vals := [Zy (l.getD ((i + j) / 2) default), Zy y]) (v := Iv (Zg4 (l.getD ((i + j) / 2) default) y)) (H' := [rwR Zg l, bxB 36 (Zr y)]) rfl rfl rfl rfl rfl rfl rfl ⟨⟨(Zhg (by kernel_rfl) rfl), (Zhg (by kernel_rfl) rfl), trivial⟩, trivial, rfl, rfl, rfl⟩ rfl (by kernel_rfl) ?_
  by_cases h2 : (Zg4 (l.getD ((i + j) / 2) default) y) < 0
  refine Zn (vx := Iv (Zg4 (l.getD ((i + j) / 2) default) y)) (vy := Iv 0) rfl rfl (.bool true) rfl rfl (Zfb (by omega)) ?_
  refine Zcn (Za6 [[], [], [], [1, 2], [1, 2, 3], [], [0, 1, 2, 3, 4, 5], [0, 1, 2, 3, 4, 5, 6]] (by kernel_rfl) (by kernel_rfl)) ?_
  refine Zf (Z5 rfl (Zl (Zb (Iv ((((i + j) / 2) : Nat) : Int)) ?_)))
  refine Zn (vx := Iv ((((i + j) / 2) : Nat) : Int)) (vy := Iv 1) rfl rfl (Iv (((((i + j) / 2) : Nat) : Int) + 1)) rfl rfl (Zci (by omega) (by omega) (by omega)) ?_
  refine Zc (Iv (((((i + j) / 2) : Nat) : Int) + 1)) (Zd (Z1 ?_))
  refine Zaa ⟨((((i + j) / 2) + 1), j), ⟨fun k hk => Zju hR (show k ≤ (i + j) / 2 by omega) (by omega) (Zgt.1 (by omega)), hB, by omega, by omega⟩, by first | omega | (dsimp only; omega), ?_⟩
  refine Zbv (n := 2) rfl ?_ (by kernel_rfl) (by kernel_rfl)
  repeat (first | exact trivial | refine ⟨.inl rfl, ?_⟩ | refine ⟨.inr ⟨rfl, rfl⟩, ?_⟩ | refine ⟨.inr ⟨congrArg (Value.int .i64) (by first | omega | (dsimp only; omega)), rfl⟩, ?_⟩)
  refine Zn (vx := Iv (Zg4 (l.getD ((i + j) / 2) default) y)) (vy := Iv 0) rfl rfl (.bool false) rfl rfl (Zex (by omega)) ?_
  refine Zcn (Za6 [[], [], [], [1, 2], [1, 2, 3], [], [0, 1, 2, 3, 4, 5], [0, 1, 2, 3, 4, 5, 6]] (by kernel_rfl) (by kernel_rfl)) ?_
  refine Zf (Zw rfl (Zl (Zb (Iv ((((i + j) / 2) : Nat) : Int)) (Zc (Iv ((((i + j) / 2) : Nat) : Int)) (Zd (Z1 ?_))))))
  refine Zaa ⟨(i, ((i + j) / 2)), ⟨hA, fun k (hk : (i + j) / 2 ≤ k) hkn => Zrc (h := (i + j) / 2) hR hk (by omega) (fun q => by have := Zgt.2 q; omega), by omega, by omega⟩, by first | omega | (dsimp only; omega), ?_⟩
  refine Zbv (n := 2) rfl ?_ (by kernel_rfl) (by kernel_rfl)
  repeat (first | exact trivial | refine ⟨.inl rfl, ?_⟩ | refine ⟨.inr ⟨rfl, rfl⟩, ?_⟩ | refine ⟨.inr ⟨congrArg (Value.int .i64) (by first | omega | (dsimp only; omega)), rfl⟩, ?_⟩)
  refine Zn (vx := Iv (i : Nat)) (vy := Iv (j : Nat)) rfl rfl (.bool false) rfl rfl (Zex (by omega)) ?_
  refine Zd (Zf (Zw rfl (Zhh (Zgc (Zee (Zfs rfl (Zf (Zj ?_))))))))
  refine Zep (by kernel_rfl) ?_
  refine Zb (Iv (i : Nat)) (Zb (Iv (i : Nat)) (Zb (Iv (n : Nat)) ?_))
  by_cases h3 : (i : Nat) < (n : Nat)
  refine Zn (vx := Iv (i : Nat)) (vy := Iv (n : Nat)) rfl rfl (.bool true) rfl rfl (Zfb (by omega)) ?_
  refine Zb (.bool true) (Zb (.func (.func 45) #[] #[]) (Zb (slv 0 0 n c) (Zb (Iv (i : Nat)) ?_)))
  refine Zdv (b := 0) (o := 0) (j := i * 36) (m := n) (c := c) (sz := 36) (i := (i : Nat)) (k := .i64) rfl rfl rfl rfl rfl (by omega) (by omega) (by omega) ?_
  refine Zca (p := pt 0 (i * 36)) (v := Zy (l.getD i default)) rfl rfl rfl (Zef (n := 0) (m := 36) Zg rfl rfl rfl rfl (by have := hn; omega) (by omega)) ?_
  refine Zk (p := pt 1 0) (v := Zy y) ?_
  refine Z7 (e := []) (nid := 0) (Zlt (G := G) (l.getD i default) y) (vals := [Zy (l.getD i default), Zy y]) (v := Iv (Zg4 (l.getD i default) y)) (H' := [rwR Zg l, bxB 36 (Zr y)]) rfl rfl rfl rfl rfl rfl rfl ⟨⟨(Zhg (by kernel_rfl) rfl), (Zhg (by kernel_rfl) rfl), trivial⟩, trivial, rfl, rfl, rfl⟩ rfl (by kernel_rfl) ?_
  by_cases h4 : (Zg4 (l.getD i default) y) = 0
  refine Zn (vx := Iv (Zg4 (l.getD i default) y)) (vy := Iv 0) rfl rfl (.bool true) rfl rfl (Zaw (by omega)) ?_
  refine Zh (.bool true) (Zc (Iv (i : Nat)) (Zc (.bool true) ?_))
  refine Zcn (Za6 [[], [], [], [1, 2], [1, 2, 3], [1, 2, 3, 4], [1, 2, 3, 4], [1, 2, 3, 4], [1, 2, 3, 4, 6, 7], [1, 2, 3, 4, 6, 7, 8], [1, 2, 3, 4], [1, 2, 3, 4, 5, 6, 7, 8, 9, 10], [1, 2, 3, 4, 5, 6, 7, 8, 9, 10, 11], [1, 2, 3, 4, 5, 6, 7, 8, 9, 10, 11, 12], [0, 1, 2, 3, 4, 5, 6, 7, 8, 9, 10, 11], [0, 1, 2, 3, 4, 5, 6, 7, 8, 9, 10, 11, 12, 13, 14]] (by kernel_rfl) (by kernel_rfl)) ?_
  refine Zf (Zq (Zp ?_))
  have hp : Zcb l y = i := Zoh hA (by omega) (fun hlt => hB i (by omega) (by omega))
  rw [Zyt hp (by omega) (by omega), hp]
  exact Zm (v := .tuple #[Iv (i : Nat), .bool true]) rfl rfl rfl (by kernel_rfl) ⟨rfl, rfl, trivial⟩
  refine Zn (vx := Iv (Zg4 (l.getD i default) y)) (vy := Iv 0) rfl rfl (.bool false) rfl rfl (Zbj (by omega)) ?_
  refine Zh (.bool false) (Zc (Iv (i : Nat)) (Zc (.bool false) ?_))
  refine Zcn (Za6 [[], [], [], [1, 2], [1, 2, 3], [1, 2, 3, 4], [1, 2, 3, 4], [1, 2, 3, 4], [1, 2, 3, 4, 6, 7], [1, 2, 3, 4, 6, 7, 8], [1, 2, 3, 4], [1, 2, 3, 4, 5, 6, 7, 8, 9, 10], [1, 2, 3, 4, 5, 6, 7, 8, 9, 10, 11], [1, 2, 3, 4, 5, 6, 7, 8, 9, 10, 11, 12], [0, 1, 2, 3, 4, 5, 6, 7, 8, 9, 10, 11], [0, 1, 2, 3, 4, 5, 6, 7, 8, 9, 10, 11, 12, 13, 14]] (by kernel_rfl) (by kernel_rfl)) ?_
  refine Zf (Zq (Zp ?_))
  have hp : Zcb l y = i := Zoh hA (by omega) (fun hlt => hB i (by omega) (by omega))
  rw [Zxa hp (fun hlt => by omega), hp]
  exact Zm (v := .tuple #[Iv (i : Nat), .bool false]) rfl rfl rfl (by kernel_rfl) ⟨rfl, rfl, trivial⟩
  refine Zn (vx := Iv (i : Nat)) (vy := Iv (n : Nat)) rfl rfl (.bool false) rfl rfl (Zex (by omega)) ?_
  refine Zb (.bool false) (Za (Za (Za (Za (Za (Za (Za (Za (Zh (.bool false) (Zc (Iv (i : Nat)) (Zc (.bool false) ?_)))))))))))
  refine Zcn (Za6 [[], [], [], [1, 2], [1, 2, 3], [1, 2, 3, 4], [1, 2, 3, 4], [1, 2, 3, 4], [1, 2, 3, 4, 6, 7], [1, 2, 3, 4, 6, 7, 8], [1, 2, 3, 4], [1, 2, 3, 4, 5, 6, 7, 8, 9, 10], [1, 2, 3, 4, 5, 6, 7, 8, 9, 10, 11], [1, 2, 3, 4, 5, 6, 7, 8, 9, 10, 11, 12], [0, 1, 2, 3, 4, 5, 6, 7, 8, 9, 10, 11], [0, 1, 2, 3, 4, 5, 6, 7, 8, 9, 10, 11, 12, 13, 14]] (by kernel_rfl) (by kernel_rfl)) ?_
  refine Zf (Zq (Zp ?_))
  have hp : Zcb l y = i := Zoh hA (by omega) (fun hlt => hB i (by omega) (by omega))
  rw [Zxa hp (fun hlt => by omega), hp]
  exact Zm (v := .tuple #[Iv (i : Nat), .bool false]) rfl rfl rfl (by kernel_rfl) ⟨rfl, rfl, trivial⟩
theorem Zmq (l : List Claim) (n c : Nat) (hn : l.length = n) (hc : n ≤ c) (hb : n ≤ 100000) (x : Claim) : Zar Try.prog G 54 [slv 0 0 n c, Zy x] [rwR Zg l] (.tuple #[slv 1 0 (Zaj l x).1.length (Zaj l x).1.length, Iv (Zaj l x).2]) [rwR Zg l, rwB Zg (Zaj l x).1] := by
  refine Zcu (fn := Try.f54) (nt := 42) rfl rfl rfl rfl ?_
  refine Zbo 3 (H' := [rwR Zg l, hole, hole, hole]) rfl ?_
  refine Zj (Zl (Zbx (v := Zy x) (b := bxB 36 (Zr x)) (nid := 1) (H' := [rwR Zg l, bxB 36 (Zr x), hole, hole]) (Zc (.slice none 0 0) (Zc (Iv 0) (Zd (Zf (Zj (Zj (Zl (Zb (slv 0 0 n c) ?_))))))))))
  refine Z7 (e := [some (0, 0)]) (nid := 0) (Zjz (G := G) l n c hn (by omega) (by omega)) (vals := [slv 0 0 n c]) (v := Iv (Zdb l)) (H' := [rwR Zg l, bxB 36 (Zr x), hole, hole]) rfl rfl rfl rfl rfl rfl rfl ⟨⟨⟨rfl, rfl, rfl, by first | omega | exact Nat.le_refl _, by first | omega | exact Nat.le_refl _⟩, trivial⟩, ⟨(Zab rfl), trivial⟩, rfl, rfl, rfl⟩ rfl (by kernel_rfl) ?_
  by_cases h1 : (Zdb l) ≠ 0
  refine Zn (vx := Iv (Zdb l)) (vy := Iv 0) rfl rfl (.bool true) rfl rfl (Zdd (by omega)) ?_
  refine Zb (.bool true) (Za (Za (Za (Zh (.bool true) (Zd (Zf (Z5 rfl (Zj (Zl (Zc (.slice none 0 0) (Zc (Iv 110) (Zd (Zf ?_)))))))))))))
  refine Zc5 (Zch.nilTmp (i := 4) (b := 2) true 36 rfl (by decide) rfl) ?_
  refine Zq (Z2 (Zp ?_))
  rw [show Zaj l x = ([], 110) from Zxg (fun q => by have := q.1; have := q.2; omega)]
  exact Zbf [0, 2] (v := .tuple #[slv 2 0 0 0, Iv 110]) rfl (by kernel_rfl) rfl rfl (by decide) (by simp [Zck, rwB, rwR, Zg]) ⟨⟨rfl, rfl, rfl, by first | omega | exact Nat.le_refl _ | exact Nat.zero_le _ | (dsimp only; omega), by first | omega | exact Nat.le_refl _ | exact Nat.zero_le _ | (dsimp only; omega)⟩, rfl, trivial⟩
  refine Zn (vx := Iv (Zdb l)) (vy := Iv 0) rfl rfl (.bool false) rfl rfl (Zdc (by omega)) ?_
  refine Zb (.bool false) (Zk (p := pt 1 0) (v := Zy x) ?_)
  refine Zt (Zgd (G := G) x) (vals := [Zy x]) (res' := Iv (Zd6 x)) rfl rfl rfl rfl rfl rfl ?_
  by_cases h2 : (Zd6 x) ≠ 0
  refine Zn (vx := Iv (Zd6 x)) (vy := Iv 0) rfl rfl (.bool true) rfl rfl (Zdd (by omega)) ?_
  refine Zh (.bool true) (Zd (Zf (Z5 rfl (Zj (Zl (Zc (.slice none 0 0) (Zc (Iv 110) (Zd (Zf ?_)))))))))
  refine Zc5 (Zch.nilTmp (i := 4) (b := 2) true 36 rfl (by decide) rfl) ?_
  refine Zq (Z2 (Zp ?_))
  rw [show Zaj l x = ([], 110) from Zxg (fun q => by have := q.1; have := q.2; omega)]
  exact Zbf [0, 2] (v := .tuple #[slv 2 0 0 0, Iv 110]) rfl (by kernel_rfl) rfl rfl (by decide) (by simp [Zck, rwB, rwR, Zg]) ⟨⟨rfl, rfl, rfl, by first | omega | exact Nat.le_refl _ | exact Nat.zero_le _ | (dsimp only; omega), by first | omega | exact Nat.le_refl _ | exact Nat.zero_le _ | (dsimp only; omega)⟩, rfl, trivial⟩
  refine Zn (vx := Iv (Zd6 x)) (vy := Iv 0) rfl rfl (.bool false) rfl rfl (Zdc (by omega)) ?_
  refine Zh (.bool false) (Zd (Zf (Zw rfl (Z8 (Zf (Zj (Zl (Zb (slv 0 0 n c) (Zk (p := pt 1 0) (v := Zy x) ?_)))))))))
  rcases Bool.eq_false_or_eq_true (Zd8 l x) with h3 | h3
  have hpl9 := Zk7 l x
  have hfl9 := Zxv (l := l) (x := x) h3
  refine Z7 (e := [some (0, 0)]) (nid := 0) (Zlb (G := G) l n c hn (by omega) (by omega) x (Zgo (by omega))) (vals := [slv 0 0 n c, Zy x, .func (.func 45) #[] #[]]) (v := .tuple #[Iv (((Zcb l x) : Nat) : Int), .bool (Zd8 l x)]) (H' := [rwR Zg l, bxB 36 (Zr x), hole, hole]) rfl rfl rfl rfl rfl rfl rfl ⟨⟨⟨rfl, rfl, rfl, by first | omega | exact Nat.le_refl _, by first | omega | exact Nat.le_refl _⟩, (Zhg (by kernel_rfl) rfl), ⟨by simp [Zfl], by kernel_rfl⟩, trivial⟩, ⟨(Zab rfl), trivial⟩, rfl, rfl, rfl⟩ (by kernel_rfl) (by kernel_rfl) ?_
  refine Zb (.tuple #[Iv (((Zcb l x) : Nat) : Int), .bool (Zd8 l x)]) (Zau (vs := #[Iv (((Zcb l x) : Nat) : Int), .bool (Zd8 l x)]) (v := Iv (((Zcb l x) : Nat) : Int)) (Zau (vs := #[Iv (((Zcb l x) : Nat) : Int), .bool (Zd8 l x)]) (v := .bool (Zd8 l x)) (Zc (Iv (((Zcb l x) : Nat) : Int)) (Zc (.bool (Zd8 l x)) (Zd (Zf (Zj (Zbk (Zj ?_)))))))))
  refine Zdg (by kernel_rfl) ?_
  refine Zb (.bool (Zd8 l x)) (Zb (.bool (Zd8 l x)) ?_)
  refine Zq6 (by exact congrArg (fun b => some (b == true)) h3) rfl (slv 0 0 n c) rfl ?_
  refine Zq6 (by exact congrArg (fun b => some (b == true)) h3) rfl (Iv (((Zcb l x) : Nat) : Int)) rfl ?_
  refine Zdv (b := 0) (o := 0) (j := (Zcb l x) * 36) (m := n) (c := c) (sz := 36) (i := (((Zcb l x) : Nat) : Int)) (k := .i64) (by exact congrArg (fun b => some (b == true)) h3) rfl rfl rfl rfl (by omega) (by omega) (by omega) ?_
  refine Zca (p := pt 0 ((Zcb l x) * 36)) (v := Zy (l.getD (Zcb l x) default)) (by exact congrArg (fun b => some (b == true)) h3) rfl rfl (Zef (n := 0) (m := 36) Zg rfl rfl rfl rfl (by have := hn; omega) (by omega)) ?_
  refine Zca (p := pt 1 0) (v := Zy x) (by exact congrArg (fun b => some (b == true)) h3) rfl rfl (by kernel_rfl) ?_
  rcases Bool.eq_false_or_eq_true (Zv (l.getD (Zcb l x) default) x) with h4 | h4
  refine Zn (vx := Zy (l.getD (Zcb l x) default)) (vy := Zy x) (by exact congrArg (fun b => some (b == true)) h3) rfl (.bool false) rfl rfl (Eq.trans (Zib (l.getD (Zcb l x) default) x) (by rw [h4] <;> rfl)) ?_
  refine Zey rfl rfl (.bool false) (by show some (if _ then _ else _) = _; rw [h3] <;> rfl) ?_
  refine Zc (.bool false) ?_
  refine Za9 (Zap [[], [0], [0, 1], [0, 1], [0, 1, 2, 3], [0, 1, 2, 3, 4], [0, 1], [0, 1, 2, 3, 4, 5, 6], [0, 1, 2, 3, 4, 5, 6, 7], [0, 1, 2, 3, 4, 5, 6, 7, 8]] (by kernel_rfl) (by kernel_rfl)) ?_
  refine Zf (Zw rfl (Zj (Zl (Zb (.bool (Zd8 l x)) (Zc (.bool (Zd8 l x)) (Zd (Zf (Z5 (congrArg Value.bool h3) (Zj (Zl (Zb (slv 0 0 n c) ?_)))))))))))
  refine Z7 (e := [some (0, 0)]) (nid := 2) (Zh3 (G := G) l n c hn (by omega) (by omega)) (vals := [slv 0 0 n c]) (v := slv 2 0 n n) (H' := [rwR Zg l, bxB 36 (Zr x), rwB Zg l, hole]) rfl rfl rfl rfl rfl rfl rfl ⟨⟨⟨rfl, rfl, rfl, by first | omega | exact Nat.le_refl _, by first | omega | exact Nat.le_refl _⟩, trivial⟩, ⟨(Zab rfl), trivial⟩, rfl, rfl, rfl⟩ (by kernel_rfl) (by kernel_rfl) ?_
  refine Zc (slv 2 0 n n) (Zc (Iv 0) (Zd (Zf (Zq (Zad (Z2 (Zp ?_)))))))
  rw [show Zaj l x = (l, 0) from Zze (by omega) (by omega) (by assumption) (by assumption), show ((l, 0) : List Claim × Int).1.length = n from hn]
  exact Zbf [0, 2] (v := .tuple #[slv 2 0 n n, Iv 0]) rfl (by kernel_rfl) rfl rfl (by decide) (by simp [Zck, rwB, rwR, Zg]) ⟨⟨rfl, rfl, rfl, by first | omega | exact Nat.le_refl _ | exact Nat.zero_le _ | (dsimp only; omega), by first | omega | exact Nat.le_refl _ | exact Nat.zero_le _ | (dsimp only; omega)⟩, rfl, trivial⟩
  refine Zn (vx := Zy (l.getD (Zcb l x) default)) (vy := Zy x) (by exact congrArg (fun b => some (b == true)) h3) rfl (.bool true) rfl rfl (Eq.trans (Zib (l.getD (Zcb l x) default) x) (by rw [h4] <;> rfl)) ?_
  refine Zey rfl rfl (.bool true) (by show some (if _ then _ else _) = _; rw [h3] <;> rfl) ?_
  refine Zc (.bool true) ?_
  refine Za9 (Zap [[], [0], [0, 1], [0, 1], [0, 1, 2, 3], [0, 1, 2, 3, 4], [0, 1], [0, 1, 2, 3, 4, 5, 6], [0, 1, 2, 3, 4, 5, 6, 7], [0, 1, 2, 3, 4, 5, 6, 7, 8]] (by kernel_rfl) (by kernel_rfl)) ?_
  refine Zf (Z5 rfl (Zj (Zl (Zc (.slice none 0 0) (Zc (Iv 111) (Zd (Zf ?_)))))))
  refine Zc5 (Zch.nilTmp (i := 4) (b := 2) true 36 rfl (by decide) rfl) ?_
  refine Zq (Zad (Z2 (Zp ?_)))
  rw [show Zaj l x = ([], 111) from Zzd (by omega) (by omega) (by assumption) (by assumption)]
  exact Zbf [0, 2] (v := .tuple #[slv 2 0 0 0, Iv 111]) rfl (by kernel_rfl) rfl rfl (by decide) (by simp [Zck, rwB, rwR, Zg]) ⟨⟨rfl, rfl, rfl, by first | omega | exact Nat.le_refl _ | exact Nat.zero_le _ | (dsimp only; omega), by first | omega | exact Nat.le_refl _ | exact Nat.zero_le _ | (dsimp only; omega)⟩, rfl, trivial⟩
  have hpl10 := Zk7 l x
  refine Z7 (e := [some (0, 0)]) (nid := 0) (Zlb (G := G) l n c hn (by omega) (by omega) x (Zgo (by omega))) (vals := [slv 0 0 n c, Zy x, .func (.func 45) #[] #[]]) (v := .tuple #[Iv (((Zcb l x) : Nat) : Int), .bool (Zd8 l x)]) (H' := [rwR Zg l, bxB 36 (Zr x), hole, hole]) rfl rfl rfl rfl rfl rfl rfl ⟨⟨⟨rfl, rfl, rfl, by first | omega | exact Nat.le_refl _, by first | omega | exact Nat.le_refl _⟩, (Zhg (by kernel_rfl) rfl), ⟨by simp [Zfl], by kernel_rfl⟩, trivial⟩, ⟨(Zab rfl), trivial⟩, rfl, rfl, rfl⟩ (by kernel_rfl) (by kernel_rfl) ?_
  refine Zb (.tuple #[Iv (((Zcb l x) : Nat) : Int), .bool (Zd8 l x)]) (Zau (vs := #[Iv (((Zcb l x) : Nat) : Int), .bool (Zd8 l x)]) (v := Iv (((Zcb l x) : Nat) : Int)) (Zau (vs := #[Iv (((Zcb l x) : Nat) : Int), .bool (Zd8 l x)]) (v := .bool (Zd8 l x)) (Zc (Iv (((Zcb l x) : Nat) : Int)) (Zc (.bool (Zd8 l x)) (Zd (Zf (Zj (Zbk (Zj ?_)))))))))
  refine Zdg (by kernel_rfl) ?_
  refine Zb (.bool (Zd8 l x)) (Zb (.bool (Zd8 l x)) ?_)
  refine Zcx (by exact congrArg (fun b => some (b == true)) h3) rfl ?_
  refine Zcx (by exact congrArg (fun b => some (b == true)) h3) rfl ?_
  refine Zcx (by exact congrArg (fun b => some (b == true)) h3) rfl ?_
  refine Zcx (by exact congrArg (fun b => some (b == true)) h3) rfl ?_
  refine Zcx (by exact congrArg (fun b => some (b == true)) h3) rfl ?_
  refine Zcx (by exact congrArg (fun b => some (b == true)) h3) rfl ?_
  refine Zey rfl rfl (.bool false) (by show some (if _ then _ else _) = _; rw [h3] <;> rfl) ?_
  refine Zc (.bool false) ?_
  refine Za9 (Zap [[], [0], [0, 1], [0, 1], [0, 1, 2, 3], [0, 1, 2, 3, 4], [0, 1], [0, 1, 2, 3, 4, 5, 6], [0, 1, 2, 3, 4, 5, 6, 7], [0, 1, 2, 3, 4, 5, 6, 7, 8]] (by kernel_rfl) (by kernel_rfl)) ?_
  refine Zf (Zw rfl (Zj (Zl (Zb (.bool (Zd8 l x)) (Zc (.bool (Zd8 l x)) (Zd (Zf (Zw (congrArg Value.bool h3) (Z8 (Z1 (Zf (Zj ?_))))))))))))
  refine Zep (by kernel_rfl) ?_
  refine Zb (slv 0 0 n c) ?_
  refine Z7 (e := [some (0, 0)]) (nid := 2) (Zh3 (G := G) l n c hn (by omega) (by omega)) (vals := [slv 0 0 n c]) (v := slv 2 0 n n) (H' := [rwR Zg l, bxB 36 (Zr x), rwB Zg l, hole]) rfl rfl rfl rfl rfl rfl rfl ⟨⟨⟨rfl, rfl, rfl, by first | omega | exact Nat.le_refl _, by first | omega | exact Nat.le_refl _⟩, trivial⟩, ⟨(Zab rfl), trivial⟩, rfl, rfl, rfl⟩ (by kernel_rfl) (by kernel_rfl) ?_
  refine Zb (Iv (((Zcb l x) : Nat) : Int)) (Zk (p := pt 1 0) (v := Zy x) ?_)
  refine Zp0 (vs := [(0, Zy x)]) (v := slv 3 0 1 1) (blk := rwB Zg [x]) (nid := 3) (H' := [rwR Zg l, bxB 36 (Zr x), rwB Zg l, rwB Zg [x]]) rfl rfl rfl (by kernel_rfl) (by kernel_rfl) ?_
  have hin11 := Zsc (x := x) n (Zcb l x) hn (by omega)
  refine Zq4 (e := [some (2, 0), some (3, 0)]) (nid := 0) (Zsu (G := G) l x n (Zcb l x) hn (by omega) (by omega)) (vals := [slv 2 0 n n, Iv (((Zcb l x) : Nat) : Int), slv 3 0 1 1]) (v := slv 2 0 (n + 1) (n + 1)) (H' := [rwR Zg l, bxB 36 (Zr x), rwB Zg (l.take (Zcb l x) ++ x :: l.drop (Zcb l x)), rwB Zg [x]]) rfl rfl rfl rfl rfl rfl ⟨⟨⟨rfl, rfl, rfl, by omega, by omega⟩, rfl, ⟨rfl, rfl, rfl, by omega, by omega⟩, trivial⟩, ⟨(Zhk rfl rfl rfl rfl), (Zhk rfl rfl rfl rfl), trivial⟩, rfl, rfl, rfl, Nat.le_refl _⟩ rfl rfl (by kernel_rfl) ?_
  refine Zc (slv 2 0 (n + 1) (n + 1)) (Zc (Iv 0) ?_)
  refine Zcn (Za6 [[], [0], [], [], [3], [0, 1, 2, 3, 4], [0, 1, 2, 3, 4, 5], [0, 1, 2, 3, 4, 5, 6]] (by kernel_rfl) (by kernel_rfl)) ?_
  refine Zf (Zq (Zp ?_))
  rw [show Zaj l x = (l.take (Zcb l x) ++ x :: l.drop (Zcb l x), 0) from Zzf (by omega) (by omega) (by assumption), show ((l.take (Zcb l x) ++ x :: l.drop (Zcb l x), 0) : List Claim × Int).1.length = n + 1 from Zsc n (Zcb l x) hn (by omega)]
  exact Zbf [0, 2] (v := .tuple #[slv 2 0 (n + 1) (n + 1), Iv 0]) rfl (by kernel_rfl) rfl rfl (by decide) (by simp [Zck, rwB, rwR, Zg]) ⟨⟨rfl, rfl, rfl, by first | omega | exact Nat.le_refl _ | exact Nat.zero_le _ | (dsimp only; omega), by first | omega | exact Nat.le_refl _ | exact Nat.zero_le _ | (dsimp only; omega)⟩, rfl, trivial⟩
end Go.Flat
namespace Go.Flat
open Go.Proofs
variable {G : Glob}
section
variable {l : List Claim} {x : Claim}
end
def Z0w (l : List Claim) (x : Claim) : Claim := if Zd8 l x then l.getD (Zcb l x) default else (⟨0, 0, 0, 0, dz⟩ : Claim)
def Zye (x : Claim) : List Claim → Bool → List Claim → List Claim
  | [], b, acc => if b then acc else acc ++ [x]
  | y :: l, b, acc => if b then Zye x l b (acc ++ [y]) else if decide (Zc4 x y) then Zye x l true (acc ++ [x] ++ [y]) else Zye x l b (acc ++ [y])
section
variable {l : List Claim} {x y : Claim} {b : Bool} {acc : List Claim}
end
end Go.Flat
