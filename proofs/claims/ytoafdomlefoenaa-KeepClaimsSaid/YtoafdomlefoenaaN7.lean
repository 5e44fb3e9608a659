/- Walks. -/
import Derived.Test.YtoafdomlefoenaaN3
import Derived.Test.YtoafdomlefoenaaFlatK
set_option linter.unusedVariables false
set_option linter.unusedSimpArgs false
set_option maxRecDepth 20000
namespace Go.Flat
open Go.Proofs
variable {G : Glob}
theorem Zpy : IsOver Try.prog 72 36 := ⟨⟨23, 4, 36, by kernel_rfl, fun w => Zb8 (P := Try.prog) (t := 36) rfl w, fun args w => run_callFunc_extern (fn := Try.f72) rfl (by kernel_rfl) (by kernel_rfl) (by kernel_rfl) (by kernel_rfl) args w⟩⟩
theorem Zmj (l : List Claim) (x : Claim) (n : Nat) (hn : l.length = n) (hN : n ≤ 1048576) : Zas Try.prog G 67 [slv 0 0 n n, Iv (n : Nat), slv 1 0 1 1] [rwB Zh l, rwL Zh [x]] (slv 0 0 (n + 1) (n + 1)) [rwB Zh (l ++ [x]), rwL Zh [x]] := by
  refine Zcv (fn := Try.f67) (nt := 95) rfl rfl rfl rfl ?_
  refine Zj (Zl (Zc (.slice none 0 0) (Ze (Zf (Zj (Zl (Zb (slv 0 0 n n) (Zb (Iv (n : Nat)) ?_))))))))
  refine Zd8 (p := slv 0 0 n n) (vl := some (Iv (n : Nat))) (vh := none) (v := slv 0 (n * 36) 0 0) rfl rfl rfl rfl rfl (Zeg (sz := 36) (l := n) rfl rfl rfl (by omega) (by omega) (by omega) rfl (by omega) (by omega) (by omega)) ?_
  refine Ze (Zf (Zj (Zl (Zb (slv 1 0 1 1) (Zba (p := slv 1 0 1 1) (v := Iv 1) (Zc (Iv 1) (Ze (Zf (Zj (Zj (Zl (Zb (Iv 1) ?_))))))))))))
  refine Zn (vx := Iv 1) (vy := Iv 0) rfl rfl (.bool false) rfl rfl (Zbb (by omega)) ?_
  refine Ze (Zf (Zw rfl (Z7 (Zf (Zj (Zl (Zb (slv 0 0 n n) (Zba (p := slv 0 0 n n) (v := Iv (n : Nat)) (Zc (Iv (n : Nat)) (Ze (Zf (Zj (Zj (Zl (Zb (Iv (n : Nat)) (Zb (Iv (n : Nat)) ?_))))))))))))))))
  refine Zn (vx := Iv (n : Nat)) (vy := Iv (n : Nat)) rfl rfl (.bool true) rfl rfl (Zav (by omega)) ?_
  refine Ze (Zf (Z8 rfl (Zj (Zl (Zb (slv 0 0 n n) (Zb (slv 1 0 1 1) ?_))))))
  have hl2 : (l ++ [x]).length = n + 1 := by have := hn; have := (rfl : _ = 1); first | (rw [List.length_append]; omega) | (rw [List.length_append, List.length_take]; omega) | (simp; omega) | simp
  refine Zh5 (p := slv 0 0 n n) (q := slv 1 0 1 1) (v := slv 0 0 (n + 1) (n + 1)) (b := 0) (blk := rwB Zh (l ++ [x])) (H' := [rwB Zh (l ++ [x]), rwL Zh [x]]) rfl rfl rfl (.inl ⟨_, rfl⟩) rfl rfl (Zk3 Zh (by_ := 64) (k := 1) (n' := n + 1) (ms := [x]) (fun _ => rfl) rfl rfl (by kernel_rfl) rfl rfl (by have := hn; omega) (by omega) (by decide) (by omega)) rfl (by kernel_rfl) ?_
  refine Zc (slv 0 0 (n + 1) (n + 1)) (Ze (Zf (Zq (Z4 (Zp ?_)))))
  exact Zm (v := slv 0 0 (n + 1) (n + 1)) rfl rfl rfl (by kernel_rfl) ⟨rfl, rfl, rfl, by first | omega | exact Nat.le_refl _ | exact Nat.zero_le _ | (dsimp only; omega), by first | omega | exact Nat.le_refl _ | exact Nat.zero_le _ | (dsimp only; omega)⟩
theorem Zmk (l : List Claim) (x : Claim) (n i : Nat) (hn : l.length = n) (hi : i < n) (hN : n ≤ 1048576) : Zas Try.prog G 67 [slv 0 0 n n, Iv i, slv 1 0 1 1] [rwB Zh l, rwL Zh [x]] (slv 0 0 (n + 1) (n + 1)) [rwB Zh (l.take i ++ x :: l.drop i), rwL Zh [x]] := by
  refine Zpk (cod := Zh) (fn := Try.f67) (nt := 95) rfl rfl rfl rfl (fun _ => rfl) l x n i hn hi ?_ ?_
  · intro c' hc
    refine Zj (Zl (Zc (.slice none 0 0) (Ze (Zf (Zj (Zl (Zb (slv 0 0 n c') (Zb (Iv (i : Nat)) ?_))))))))
    refine Zd8 (p := slv 0 0 n c') (vl := some (Iv (i : Nat))) (vh := none) (v := slv 0 (i * 36) (n - i) (c' - i)) rfl rfl rfl rfl rfl (Zeg (sz := 36) (l := i) rfl rfl rfl (by omega) (by omega) (by omega) rfl (by omega) (by omega) (by omega)) ?_
    refine Ze (Zf (Zj (Zl (Zb (slv 1 0 1 1) (Zba (p := slv 1 0 1 1) (v := Iv 1) (Zc (Iv 1) (Ze (Zf (Zj (Zj (Zl (Zb (Iv 1) ?_))))))))))))
    refine Zn (vx := Iv 1) (vy := Iv 0) rfl rfl (.bool false) rfl rfl (Zbb (by omega)) ?_
    refine Ze (Zf (Zw rfl (Z7 (Zf (Zj (Zl (Zb (slv 0 0 n c') (Zba (p := slv 0 0 n c') (v := Iv (n : Nat)) (Zc (Iv (n : Nat)) (Ze (Zf (Zj (Zj (Zl (Zb (Iv (i : Nat)) (Zb (Iv (n : Nat)) ?_))))))))))))))))
    refine Zn (vx := Iv (i : Nat)) (vy := Iv (n : Nat)) rfl rfl (.bool false) rfl rfl (Zbb (by omega)) ?_
    refine Ze (Zf (Zw rfl (Z7 (Zf (Zj (Zj (Zl (Zb (Iv (n : Nat)) (Zb (Iv 1) ?_)))))))))
    refine Zn (vx := Iv (n : Nat)) (vy := Iv 1) rfl rfl (Iv ((n : Nat) + 1)) rfl rfl (Zci (by omega) (by omega) (by omega)) ?_
    refine Zb (slv 0 0 n c') ?_
    refine Zx9 (p := slv 0 0 n c') (v := Iv (c' : Nat)) rfl rfl rfl (by kernel_rfl) ?_
    refine Zn (vx := Iv ((n : Nat) + 1)) (vy := Iv (c' : Nat)) rfl rfl (.bool false) rfl rfl (Zhy (by omega)) ?_
    refine Ze (Zf (Zw rfl (Z7 (Zf (Zj (Zl (Zb (slv 0 0 n c') (Zb (Iv (n : Nat)) (Zb (Iv 1) ?_)))))))))
    refine Zn (vx := Iv (n : Nat)) (vy := Iv 1) rfl rfl (Iv ((n : Nat) + 1)) rfl rfl (Zci (by omega) (by omega) (by omega)) ?_
    refine Zd8 (p := slv 0 0 n c') (vl := none) (vh := some (Iv ((n : Nat) + 1))) (v := slv 0 0 (n + 1) c') rfl rfl rfl rfl rfl (Zl6 (h := n + 1) rfl rfl (by omega) (by omega) rfl) ?_
    refine Zc (slv 0 0 (n + 1) c') (Ze (Zf (Zj (Zj (Zl (Zb (slv 1 0 1 1) (Zb (slv 0 0 (n + 1) c') (Zb (Iv (i : Nat)) (Zb (Iv 1) ?_)))))))))
    refine Zn (vx := Iv (i : Nat)) (vy := Iv 1) rfl rfl (Iv ((i : Nat) + 1)) rfl rfl (Zci (by omega) (by omega) (by omega)) ?_
    refine Zd8 (p := slv 0 0 (n + 1) c') (vl := some (Iv ((i : Nat) + 1))) (vh := none) (v := slv 0 ((i + 1) * 36) (n - i) (c' - i - 1)) rfl rfl rfl rfl rfl (Zeg (sz := 36) (l := i + 1) rfl rfl rfl (by omega) (by omega) (by omega) rfl (by omega) (by omega) (by omega)) ?_
    refine Zy8 (sz := 36) Zpy (p := slv 1 0 1 1) (q := slv 0 ((i + 1) * 36) (n - i) (c' - i - 1)) (v := .bool false) rfl rfl rfl rfl (Zvy Zh (n := n) (i := i) rfl rfl rfl (by decide) hi (by first | (show _ ≤ (Zh.row l ++ List.replicate ((c' - n) * 36) dead).length; rw [List.length_append, Zh.row_len, List.length_replicate, hn]; show (n + 1) * 36 ≤ n * 36 + (c' - n) * 36; omega) | (show _ ≤ (splice (Zh.row l ++ List.replicate ((c' - n) * 36) dead) _ _).length; rw [Zcq (by rw [Zh.row_len, List.length_drop, List.length_append, Zh.row_len, List.length_replicate, hn]; show (i + 1) * 36 + (n - i) * 36 ≤ n * 36 + (c' - n) * 36; omega), List.length_append, Zh.row_len, List.length_replicate, hn]; show (n + 1) * 36 ≤ n * 36 + (c' - n) * 36; omega)) (by omega) (by omega)) ?_
    refine Zd1 (vx := .bool false) rfl rfl (.bool true) rfl Zbl ?_
    refine Ze (Zf (Z8 rfl (Zj ?_)))
    refine Zdx (by kernel_rfl) ?_
    refine Zb (slv 0 0 (n + 1) c') (Zb (Iv (i : Nat)) (Zb (Iv 1) ?_))
    refine Zn (vx := Iv (i : Nat)) (vy := Iv 1) rfl rfl (Iv ((i : Nat) + 1)) rfl rfl (Zci (by omega) (by omega) (by omega)) ?_
    refine Zd8 (p := slv 0 0 (n + 1) c') (vl := some (Iv ((i : Nat) + 1))) (vh := none) (v := slv 0 ((i + 1) * 36) (n - i) (c' - i - 1)) rfl rfl rfl rfl rfl (Zeg (sz := 36) (l := i + 1) rfl rfl rfl (by omega) (by omega) (by omega) rfl (by omega) (by omega) (by omega)) ?_
    refine Zb (slv 0 0 (n + 1) c') (Zb (Iv (i : Nat)) ?_)
    refine Zd8 (p := slv 0 0 (n + 1) c') (vl := some (Iv (i : Nat))) (vh := none) (v := slv 0 (i * 36) (n + 1 - i) (c' - i)) rfl rfl rfl rfl rfl (Zeg (sz := 36) (l := i) rfl rfl rfl (by omega) (by omega) (by omega) rfl (by omega) (by omega) (by omega)) ?_
    refine Zop (p := slv 0 ((i + 1) * 36) (n - i) (c' - i - 1)) (q := slv 0 (i * 36) (n + 1 - i) (c' - i)) (v := Iv (((n : Nat) : Int) - ((i : Nat) : Int))) (b := 0) (blk := (exB 36 (splice (Zh.row l ++ List.replicate ((c' - n) * 36) dead) ((i + 1) * 36) (Zh.row (l.drop i))))) (H' := [(exB 36 (splice (Zh.row l ++ List.replicate ((c' - n) * 36) dead) ((i + 1) * 36) (Zh.row (l.drop i)))), rwL Zh [x]]) rfl rfl rfl rfl (Zsc (cod := Zh) (by_ := 64) (l := l) (n := n) (i := i) (sz := 36) (A := (exB 36 (Zh.row l ++ List.replicate ((c' - n) * 36) dead))) (B := (exB 36 (Zh.row l ++ List.replicate ((c' - n) * 36) dead))) (D := List.replicate ((c' - n) * 36) dead) (fun _ => rfl) rfl rfl rfl rfl rfl rfl hn hi (by omega) (by omega) (by omega) (by omega) (by first | (show _ ≤ (Zh.row l ++ List.replicate ((c' - n) * 36) dead).length; rw [List.length_append, Zh.row_len, List.length_replicate, hn]; show (n + 1) * 36 ≤ n * 36 + (c' - n) * 36; omega) | (show _ ≤ (splice (Zh.row l ++ List.replicate ((c' - n) * 36) dead) _ _).length; rw [Zcq (by rw [Zh.row_len, List.length_drop, List.length_append, Zh.row_len, List.length_replicate, hn]; show (i + 1) * 36 + (n - i) * 36 ≤ n * 36 + (c' - n) * 36; omega), List.length_append, Zh.row_len, List.length_replicate, hn]; show (n + 1) * 36 ≤ n * 36 + (c' - n) * 36; omega)) (by show _ ≤ (Zh.row l ++ List.replicate ((c' - n) * 36) dead).length; rw [List.length_append, Zh.row_len, List.length_replicate, hn]; show i * 36 + (n + 1 - i) * 36 ≤ n * 36 + (c' - n) * 36; omega) (by omega)) (by kernel_rfl) ?_
    refine Zbh (Zar [[], [], [], [1, 2], [0, 1, 2, 3], [], [], [5, 6], [0, 1, 2, 3, 4, 5, 6, 7]] (by kernel_rfl) (by kernel_rfl)) ?_
    refine Zf (Zj (Zl (Zb (slv 0 0 (n + 1) c') (Zb (Iv (i : Nat)) ?_))))
    refine Zd8 (p := slv 0 0 (n + 1) c') (vl := some (Iv (i : Nat))) (vh := none) (v := slv 0 (i * 36) (n + 1 - i) (c' - i)) rfl rfl rfl rfl rfl (Zeg (sz := 36) (l := i) rfl rfl rfl (by omega) (by omega) (by omega) rfl (by omega) (by omega) (by omega)) ?_
    refine Zb (slv 1 0 1 1) ?_
    refine Zop (p := slv 0 (i * 36) (n + 1 - i) (c' - i)) (q := slv 1 0 1 1) (v := Iv 1) (b := 0) (blk := (exB 36 (splice (splice (Zh.row l ++ List.replicate ((c' - n) * 36) dead) ((i + 1) * 36) (Zh.row (l.drop i))) (i * 36) (Zh.row [x])))) (H' := [(exB 36 (splice (splice (Zh.row l ++ List.replicate ((c' - n) * 36) dead) ((i + 1) * 36) (Zh.row (l.drop i))) (i * 36) (Zh.row [x]))), rwL Zh [x]]) rfl rfl rfl rfl (Zo9 (cod := Zh) (by_ := 64) (x := x) (n := n) (i := i) (sz := 36) (A := (exB 36 (splice (Zh.row l ++ List.replicate ((c' - n) * 36) dead) ((i + 1) * 36) (Zh.row (l.drop i))))) (fun _ => rfl) rfl rfl rfl rfl rfl hi (by omega) (by omega) (by first | (show _ ≤ (Zh.row l ++ List.replicate ((c' - n) * 36) dead).length; rw [List.length_append, Zh.row_len, List.length_replicate, hn]; show (n + 1) * 36 ≤ n * 36 + (c' - n) * 36; omega) | (show _ ≤ (splice (Zh.row l ++ List.replicate ((c' - n) * 36) dead) _ _).length; rw [Zcq (by rw [Zh.row_len, List.length_drop, List.length_append, Zh.row_len, List.length_replicate, hn]; show (i + 1) * 36 + (n - i) * 36 ≤ n * 36 + (c' - n) * 36; omega), List.length_append, Zh.row_len, List.length_replicate, hn]; show (n + 1) * 36 ≤ n * 36 + (c' - n) * 36; omega)) rfl) (by kernel_rfl) ?_
    refine Ze (Zf (Zj (Zl (Zb (slv 0 0 (n + 1) c') (Zc (slv 0 0 (n + 1) c') (Ze (Zf (Zq (Z4 ?_)))))))))
    exact Zwk (v := slv 0 0 (n + 1) c') rfl ⟨⟨List.drop 36 (List.replicate ((c' - n) * 36) dead), congrArg (fun q => some (exB 36 q)) (Zzp rfl hn hi (by rw [List.length_replicate]; omega)), by rw [List.length_drop, List.length_replicate]; show (n + 1) * 36 + _ = c' * 36; omega⟩, rfl, rfl⟩
  refine Zbq 1 (H' := [(exB 36 (Zh.row l)), rwL Zh [x], hole]) rfl ?_
  refine Zj (Zl (Zc (.slice none 0 0) (Ze (Zf (Zj (Zl (Zb (slv 0 0 n n) (Zb (Iv (i : Nat)) ?_))))))))
  refine Zd8 (p := slv 0 0 n n) (vl := some (Iv (i : Nat))) (vh := none) (v := slv 0 (i * 36) (n - i) (n - i)) rfl rfl rfl rfl rfl (Zeg (sz := 36) (l := i) rfl rfl rfl (by omega) (by omega) (by omega) rfl (by omega) (by omega) (by omega)) ?_
  refine Ze (Zf (Zj (Zl (Zb (slv 1 0 1 1) (Zba (p := slv 1 0 1 1) (v := Iv 1) (Zc (Iv 1) (Ze (Zf (Zj (Zj (Zl (Zb (Iv 1) ?_))))))))))))
  refine Zn (vx := Iv 1) (vy := Iv 0) rfl rfl (.bool false) rfl rfl (Zbb (by omega)) ?_
  refine Ze (Zf (Zw rfl (Z7 (Zf (Zj (Zl (Zb (slv 0 0 n n) (Zba (p := slv 0 0 n n) (v := Iv (n : Nat)) (Zc (Iv (n : Nat)) (Ze (Zf (Zj (Zj (Zl (Zb (Iv (i : Nat)) (Zb (Iv (n : Nat)) ?_))))))))))))))))
  refine Zn (vx := Iv (i : Nat)) (vy := Iv (n : Nat)) rfl rfl (.bool false) rfl rfl (Zbb (by omega)) ?_
  refine Ze (Zf (Zw rfl (Z7 (Zf (Zj (Zj (Zl (Zb (Iv (n : Nat)) (Zb (Iv 1) ?_)))))))))
  refine Zn (vx := Iv (n : Nat)) (vy := Iv 1) rfl rfl (Iv ((n : Nat) + 1)) rfl rfl (Zci (by omega) (by omega) (by omega)) ?_
  refine Zb (slv 0 0 n n) ?_
  refine Zx9 (p := slv 0 0 n n) (v := Iv (n : Nat)) rfl rfl rfl (by kernel_rfl) ?_
  refine Zn (vx := Iv ((n : Nat) + 1)) (vy := Iv (n : Nat)) rfl rfl (.bool true) rfl rfl (Zhz (by omega)) ?_
  refine Ze (Zf (Z8 rfl (Zj (Zl (Zb (slv 0 0 n n) (Zb (Iv (i : Nat)) ?_))))))
  refine Zd8 (p := slv 0 0 n n) (vl := none) (vh := some (Iv (i : Nat))) (v := slv 0 0 i n) rfl rfl rfl rfl rfl (Zl6 (h := i) rfl rfl (by omega) (by omega) rfl) ?_
  refine Zb (Iv (n : Nat)) (Zb (Iv 1) ?_)
  refine Zn (vx := Iv (n : Nat)) (vy := Iv 1) rfl rfl (Iv ((n : Nat) + 1)) rfl rfl (Zci (by omega) (by omega) (by omega)) ?_
  refine Zb (Iv (i : Nat)) ?_
  refine Zn (vx := Iv ((n : Nat) + 1)) (vy := Iv (i : Nat)) rfl rfl (Iv (((n : Nat) : Int) - ((i : Nat) : Int) + 1)) rfl rfl (Zk4 (by omega) (by omega) (by omega)) ?_
  refine Zy7 (p := slv 0 0 i n) (q := Iv (((n : Nat) : Int) - ((i : Nat) : Int) + 1)) (v := slv 2 0 (n + 1) (n + 1)) (blk := (mxW 36 ((((Zh.row l).drop 0).take (i * 36)) ++ List.replicate ((n + 1 - i) * 36) dead))) (nid := 2) (H' := [(exB 36 (Zh.row l)), rwL Zh [x], (mxW 36 ((((Zh.row l).drop 0).take (i * 36)) ++ List.replicate ((n + 1 - i) * 36) dead))]) rfl rfl rfl rfl rfl (Zwn Zh (by_ := 64) rfl rfl rfl rfl hn hi (by omega) (by omega) (by decide) (by omega) rfl) (by kernel_rfl) ?_
  refine Zc (slv 2 0 (n + 1) (n + 1)) (Ze (Zf (Zj (Zl (Zb (slv 2 0 (n + 1) (n + 1)) (Zb (Iv (i : Nat)) ?_))))))
  refine Zd8 (p := slv 2 0 (n + 1) (n + 1)) (vl := some (Iv (i : Nat))) (vh := none) (v := slv 2 (i * 36) (n + 1 - i) (n + 1 - i)) rfl rfl rfl rfl rfl (Zeg (sz := 36) (l := i) rfl rfl rfl (by omega) (by omega) (by omega) rfl (by omega) (by omega) (by omega)) ?_
  refine Zb (slv 1 0 1 1) ?_
  refine Zop (p := slv 2 (i * 36) (n + 1 - i) (n + 1 - i)) (q := slv 1 0 1 1) (v := Iv 1) (b := 2) (blk := (mxW 36 (splice ((((Zh.row l).drop 0).take (i * 36)) ++ List.replicate ((n + 1 - i) * 36) dead) (i * 36) (Zh.row [x])))) (H' := [(exB 36 (Zh.row l)), rwL Zh [x], (mxW 36 (splice ((((Zh.row l).drop 0).take (i * 36)) ++ List.replicate ((n + 1 - i) * 36) dead) (i * 36) (Zh.row [x])))]) rfl rfl rfl rfl (Zo9 (cod := Zh) (by_ := 64) (x := x) (n := n) (i := i) (sz := 36) (A := (mxW 36 ((((Zh.row l).drop 0).take (i * 36)) ++ List.replicate ((n + 1 - i) * 36) dead))) (fun _ => rfl) rfl rfl rfl rfl rfl hi (by omega) (by omega) (by first | exact Nat.le_of_eq (Eq.symm (by rw [List.length_append, List.length_take, List.length_drop, Zh.row_len, List.length_replicate, hn]; show min (i * 36) (n * 36 - 0) + (n + 1 - i) * 36 = (n + 1) * 36; omega : (((Zh.row l).drop 0).take (i * 36) ++ List.replicate ((n + 1 - i) * 36) dead).length = (n + 1) * 36)) | (show _ ≤ (splice (((Zh.row l).drop 0).take (i * 36) ++ List.replicate ((n + 1 - i) * 36) dead) _ _).length; rw [Zcq (by rw [(by rw [List.length_append, List.length_take, List.length_drop, Zh.row_len, List.length_replicate, hn]; show min (i * 36) (n * 36 - 0) + (n + 1 - i) * 36 = (n + 1) * 36; omega : (((Zh.row l).drop 0).take (i * 36) ++ List.replicate ((n + 1 - i) * 36) dead).length = (n + 1) * 36), Zh.row_len]; show i * 36 + 1 * 36 ≤ (n + 1) * 36; omega), (by rw [List.length_append, List.length_take, List.length_drop, Zh.row_len, List.length_replicate, hn]; show min (i * 36) (n * 36 - 0) + (n + 1 - i) * 36 = (n + 1) * 36; omega : (((Zh.row l).drop 0).take (i * 36) ++ List.replicate ((n + 1 - i) * 36) dead).length = (n + 1) * 36)]; exact Nat.le_refl _)) rfl) (by kernel_rfl) ?_
  refine Ze (Zf (Zj ?_))
  refine Zdx (by kernel_rfl) ?_
  refine Zb (slv 2 0 (n + 1) (n + 1)) (Zb (Iv (i : Nat)) (Zb (Iv 1) ?_))
  refine Zn (vx := Iv (i : Nat)) (vy := Iv 1) rfl rfl (Iv ((i : Nat) + 1)) rfl rfl (Zci (by omega) (by omega) (by omega)) ?_
  refine Zd8 (p := slv 2 0 (n + 1) (n + 1)) (vl := some (Iv ((i : Nat) + 1))) (vh := none) (v := slv 2 ((i + 1) * 36) (n - i) (n - i)) rfl rfl rfl rfl rfl (Zeg (sz := 36) (l := i + 1) rfl rfl rfl (by omega) (by omega) (by omega) rfl (by omega) (by omega) (by omega)) ?_
  refine Zb (slv 0 0 n n) (Zb (Iv (i : Nat)) ?_)
  refine Zd8 (p := slv 0 0 n n) (vl := some (Iv (i : Nat))) (vh := none) (v := slv 0 (i * 36) (n - i) (n - i)) rfl rfl rfl rfl rfl (Zeg (sz := 36) (l := i) rfl rfl rfl (by omega) (by omega) (by omega) rfl (by omega) (by omega) (by omega)) ?_
  refine Zop (p := slv 2 ((i + 1) * 36) (n - i) (n - i)) (q := slv 0 (i * 36) (n - i) (n - i)) (v := Iv (((n : Nat) : Int) - ((i : Nat) : Int))) (b := 2) (blk := (mxW 36 (splice (splice ((((Zh.row l).drop 0).take (i * 36)) ++ List.replicate ((n + 1 - i) * 36) dead) (i * 36) (Zh.row [x])) ((i + 1) * 36) (Zh.row (l.drop i))))) (H' := [(exB 36 (Zh.row l)), rwL Zh [x], (mxW 36 (splice (splice ((((Zh.row l).drop 0).take (i * 36)) ++ List.replicate ((n + 1 - i) * 36) dead) (i * 36) (Zh.row [x])) ((i + 1) * 36) (Zh.row (l.drop i))))]) rfl rfl rfl rfl (Zsc (cod := Zh) (by_ := 64) (l := l) (n := n) (i := i) (sz := 36) (A := (mxW 36 (splice ((((Zh.row l).drop 0).take (i * 36)) ++ List.replicate ((n + 1 - i) * 36) dead) (i * 36) (Zh.row [x])))) (B := (exB 36 (Zh.row l))) (D := []) (fun _ => rfl) rfl rfl rfl rfl rfl (List.append_nil _).symm hn hi (by omega) (by omega) (by omega) (by omega) (by first | exact Nat.le_of_eq (Eq.symm (by rw [List.length_append, List.length_take, List.length_drop, Zh.row_len, List.length_replicate, hn]; show min (i * 36) (n * 36 - 0) + (n + 1 - i) * 36 = (n + 1) * 36; omega : (((Zh.row l).drop 0).take (i * 36) ++ List.replicate ((n + 1 - i) * 36) dead).length = (n + 1) * 36)) | (show _ ≤ (splice (((Zh.row l).drop 0).take (i * 36) ++ List.replicate ((n + 1 - i) * 36) dead) _ _).length; rw [Zcq (by rw [(by rw [List.length_append, List.length_take, List.length_drop, Zh.row_len, List.length_replicate, hn]; show min (i * 36) (n * 36 - 0) + (n + 1 - i) * 36 = (n + 1) * 36; omega : (((Zh.row l).drop 0).take (i * 36) ++ List.replicate ((n + 1 - i) * 36) dead).length = (n + 1) * 36), Zh.row_len]; show i * 36 + 1 * 36 ≤ (n + 1) * 36; omega), (by rw [List.length_append, List.length_take, List.length_drop, Zh.row_len, List.length_replicate, hn]; show min (i * 36) (n * 36 - 0) + (n + 1 - i) * 36 = (n + 1) * 36; omega : (((Zh.row l).drop 0).take (i * 36) ++ List.replicate ((n + 1 - i) * 36) dead).length = (n + 1) * 36)]; exact Nat.le_refl _)) (by show _ ≤ (Zh.row l).length; rw [Zh.row_len, hn]; show i * 36 + (n - i) * 36 ≤ n * 36; omega) (by omega)) (by kernel_rfl) ?_
  refine Zbh (Zar [[], [], [], [1, 2], [0, 1, 2, 3], [], [], [5, 6], [0, 1, 2, 3, 4, 5, 6, 7]] (by kernel_rfl) (by kernel_rfl)) ?_
  refine Zf (Zj (Zl (Zb (slv 2 0 (n + 1) (n + 1)) (Zc (slv 2 0 (n + 1) (n + 1)) (Ze (Zf (Zq (Z4 ?_))))))))
  exact Zwk (v := slv 2 0 (n + 1) (n + 1)) rfl ⟨congrArg (fun q => some (mxW 36 q)) (Zzq rfl hn hi (by rw [List.length_replicate])), rfl, rfl⟩
theorem Zs6 (l : List Claim) (x : Claim) (n i : Nat) (hn : l.length = n) (hi : i ≤ n) (hN : n ≤ 1048576) : Zas Try.prog G 67 [slv 0 0 n n, Iv i, slv 1 0 1 1] [rwB Zh l, rwL Zh [x]] (slv 0 0 (n + 1) (n + 1)) [rwB Zh (l.take i ++ x :: l.drop i), rwL Zh [x]] := by
 rcases Nat.lt_or_ge i n with h | h
 ·exact Zmk l x n i hn h hN
 ·obtain rfl : i = n := by omega
  have := Zmj (G := G) l x i hn hN
  rw [show l.take i ++ x :: l.drop i = l ++ [x] from by subst hn; simp]
  exact this
theorem Zzl {P : Program} {src dst : TypeId} {k' : IntKind} {n : Int} (h1 : P.underlying src = some (.int k')) (h2 : P.underlying dst = some (.int .u64)) (g1 : 0 ≤ n) (g2 : n ≤ 9223372036854775807) : Zko P src dst (.int k' n) = some (.int .u64 n) := by
 rw [Zo7 h1 h2]
 simp only [IntKind.wrap, IntKind.bits, IntKind.signed, Bool.false_and]
 congr 2
 simp
 omega
theorem Z0h {P : Program} {t : TypeId} {u v : Operand} {x z : Int} {yk : IntKind} (h0 : 0 ≤ x) (hz : x / 2 = z) : Zc5 P .shr t u v (.int .u64 x) (.int yk 1) = some (.int .u64 z) := Zs9 (.inr rfl) (by
 subst hz
 simp only [Op.shift]
 rw [if_neg (by omega)]
 have hm : min ((1 : Int).toNat) IntKind.u64.bits = 1 := rfl
 simp only [Zam, hm]
 rw [Int.fdiv_eq_ediv_of_nonneg _ (Int.le_of_lt (Int.pow_pos (by decide)))]; rfl) rfl

section
variable {l : List Claim} {x : Claim}
theorem Zkl {a b c : Claim} (h1 : Zcx a b) (h2 : Zcx b c) : Zcx a c := by unfold Zcx at *; omega
theorem Zns (hR : Zdi l) {i : Nat} : ∀ {j : Nat}, i < j → j < l.length → Zcx (l.getD i default) (l.getD j default) := by
 intro j
 induction j with
 | zero => intro h; omega
 | succ j ih =>
  intro h1 h2
  have h3 := (hR (j + 1) h2).2 (by omega)
  rw [Nat.add_sub_cancel] at h3
  rcases Nat.lt_or_ge i j with h | h
  ·exact Zkl (ih h (by omega)) h3
  ·obtain rfl : i = j := by omega
   exact h3
theorem Zj1 (hR : Zdi l) {k h : Nat} (hk : k ≤ h) (hh : h < l.length) (ha : Zcx (l.getD h default) x) : Zcx (l.getD k default) x := by
 rcases Nat.lt_or_ge k h with h1 | h1
 ·exact Zkl (Zns hR h1 hh) ha
 ·obtain rfl : k = h := by omega
  exact ha
theorem Zri (hR : Zdi l) {k h : Nat} (hk : h ≤ k) (hh : k < l.length) (ha : ¬ Zcx (l.getD h default) x) : ¬ Zcx (l.getD k default) x := fun q => ha (Zj1 hR hk hh q)
def Zbo (l : List Claim) (x : Claim) : Nat := (l.takeWhile fun y => decide (Zcx y x)).length
theorem Zjw (l : List Claim) (x : Claim) : Zbo l x ≤ l.length := by
 unfold Zbo
 induction l with
 | nil => simp
 | cons y l ih => rw [List.takeWhile_cons]; split <;> simp <;> omega
theorem Zld : ∀ {l : List Claim} {i : Nat}, (∀ k, k < i → Zcx (l.getD k default) x) → i ≤ l.length → (i < l.length → ¬ Zcx (l.getD i default) x) → Zbo l x = i := by
  intro l
  induction l with
  | nil => intro i _ h2 _; have : i = 0 := by simpa using h2
           subst this; rfl
  | cons y l ih =>
    intro i h1 h2 h3
    unfold Zbo
    cases i with
    | zero =>
      rw [List.takeWhile_cons, if_neg (by simpa using h3 (by simp))]; rfl
    | succ i =>
      have h0 : Zcx y x := h1 0 (by omega)
      rw [List.takeWhile_cons, if_pos (by simpa using h0), List.length_cons]
      have := ih (i := i) (fun k hk => h1 (k + 1) (by omega)) (by simpa using h2) (fun h => h3 (by simpa using h))
      unfold Zbo at this
      rw [this]
def Zdw (l : List Claim) (x : Claim) : Bool := decide (Zbo l x < l.length) && decide (Zgz (l.getD (Zbo l x) default) x = 0)
theorem Zx4 {i : Nat} (h : Zbo l x = i) (h1 : i < l.length) (h2 : Zgz (l.getD i default) x = 0) : Zdw l x = true := by
 unfold Zdw; rw [h, decide_eq_true h1, decide_eq_true h2]; rfl
theorem Zx3 {i : Nat} (h : Zbo l x = i) (h1 : i < l.length → ¬ Zgz (l.getD i default) x = 0) : Zdw l x = false := by
 unfold Zdw; rw [h]
 by_cases hi : i < l.length
 ·rw [decide_eq_false (h1 hi), Bool.and_false]
 ·rw [decide_eq_false hi]; rfl
theorem Zu2 (h : Zdw l x = true) : Zbo l x < l.length := by
 unfold Zdw at h; rw [Bool.and_eq_true] at h; exact of_decide_eq_true h.1
end
def Zad (l : List Claim) (x : Claim) : List Claim × Int :=
  if Zc6 l = 0 ∧ Zdv x = 0 then (if Zdw l x then (if Zr (l.getD (Zbo l x) default) x then (l, 0) else ([], 111)) else (l.take (Zbo l x) ++ x :: l.drop (Zbo l x), 0)) else ([], 110)
section
variable {l : List Claim} {x : Claim}
theorem Zya (h : ¬ (Zc6 l = 0 ∧ Zdv x = 0)) : Zad l x = ([], 110) := if_neg h
theorem Zv6 (h : Zc6 l = 0) (h1 : Zdv x = 0) (h2 : Zdw l x = true) (h3 : Zr (l.getD (Zbo l x) default) x = false) : Zad l x = ([], 111) := by unfold Zad; rw [if_pos ⟨h, h1⟩, if_pos h2, if_neg (by rw [h3]; decide)]
theorem Zv7 (h : Zc6 l = 0) (h1 : Zdv x = 0) (h2 : Zdw l x = true) (h3 : Zr (l.getD (Zbo l x) default) x = true) : Zad l x = (l, 0) := by unfold Zad; rw [if_pos ⟨h, h1⟩, if_pos h2, if_pos h3]
theorem Zyb (h : Zc6 l = 0) (h1 : Zdv x = 0) (h2 : Zdw l x = false) : Zad l x = (l.take (Zbo l x) ++ x :: l.drop (Zbo l x), 0) := by unfold Zad; rw [if_pos ⟨h, h1⟩, if_neg (by rw [h2]; decide)]
theorem Zsn (n i : Nat) (h : l.length = n) (hi : i ≤ n) : (l.take i ++ x :: l.drop i).length = n + 1 := by simp; omega
end
theorem Zlg (l : List Claim) (n c : Nat) (hn : l.length = n) (hc : n ≤ c) (hb : n ≤ 1048576) (y : Claim) (hR : Zdi l) : Zas Try.prog G 66 [slv 0 0 n c, Zv y, .func (.func 45) #[] #[]] [rwR Zh l] (.tuple #[Iv (Zbo l y : Nat), .bool (Zdw l y)]) [rwR Zh l] := by
  refine Zcv (fn := Try.f66) (nt := 49) rfl rfl rfl rfl ?_
  refine Zbq 1 (H' := [rwR Zh l, hole]) rfl ?_
  refine Zj (Zl (Zbw (v := Zv y) (b := bxB 36 (Zo y)) (nid := 1) (H' := [rwR Zh l, bxB 36 (Zo y)]) (Zc (Iv 0) (Zc (.bool false) (Ze (Zf (Zj (Zl (Zb (slv 0 0 n c) (Zba (p := slv 0 0 n c) (v := Iv (n : Nat)) (Zc (Iv (n : Nat)) (Ze (Zf (Zj (Zl (Zb (Iv (n : Nat)) (Zc (Iv 0) (Zc (Iv (n : Nat)) ?_))))))))))))))))))
  refine Ze (Zf (Zj (Zbm ?_)))
  refine Zf9 (fun x : Nat × Nat => match x with | (i, j) => [slv 0 0 n c, Zv y, .func (.func 45) #[] #[], dead, pt 1 0, dead, Iv 0, .bool false, Iv (n : Nat), Iv (i : Nat), Iv (j : Nat), dead, slv 0 0 n c, Iv (n : Nat), Iv (n : Nat)]) (fun x : Nat × Nat => match x with | (i, j) => [rwR Zh l, bxB 36 (Zo y)]) (fun x : Nat × Nat => match x with | (i, j) => (∀ k, k < i → Zcx (l.getD k default) y) ∧ (∀ k, j ≤ k → k < n → ¬ Zcx (l.getD k default) y) ∧ i ≤ j ∧ j ≤ n) (fun x : Nat × Nat => match x with | (i, j) => j - i) (0, n) ⟨fun _ h => absurd h (Nat.not_lt_zero _), fun k h h' => absurd h' (Nat.not_lt.2 h), Nat.zero_le _, Nat.le_refl _⟩ ?_ ?_
  · refine Zbz (n := 2) rfl ?_ (by kernel_rfl) (by kernel_rfl)
    repeat (first | exact trivial | refine ⟨.inl rfl, ?_⟩ | refine ⟨.inr ⟨rfl, rfl⟩, ?_⟩ | refine ⟨.inr ⟨congrArg (Value.int .i64) (by first | omega | (dsimp only; omega)), rfl⟩, ?_⟩)
  rintro ⟨i, j⟩ ⟨hA, hB, hC, hD⟩
  dsimp only at *
  refine Zj (Zj (Zl (Zb (Iv (i : Nat)) (Zb (Iv (j : Nat)) ?_))))
  by_cases h1 : (i : Nat) < (j : Nat)
  refine Zn (vx := Iv (i : Nat)) (vy := Iv (j : Nat)) rfl rfl (.bool true) rfl rfl (Zfg (by omega)) ?_
  refine Ze (Zf (Z8 rfl (Z7 (Zf (Zbm (Zj (Zl (Zb (Iv (i : Nat)) (Zb (Iv (j : Nat)) ?_)))))))))
  refine Zn (vx := Iv (i : Nat)) (vy := Iv (j : Nat)) rfl rfl (Iv ((i : Nat) + (j : Nat))) rfl rfl (Zci (by omega) (by omega) (by omega)) ?_
  refine Zv2 (w := Iv ((i : Nat) + (j : Nat))) (v := .int .u64 ((i : Nat) + (j : Nat))) rfl rfl rfl (Zzl rfl rfl (by omega) (by omega)) ?_
  refine Zn (vx := .int .u64 ((i : Nat) + (j : Nat))) (vy := .int .u64 1) rfl rfl (.int .u64 ((((i + j) / 2) : Nat) : Int)) rfl rfl (Z0h (by omega) (by omega)) ?_
  refine Zv2 (w := .int .u64 ((((i + j) / 2) : Nat) : Int)) (v := Iv ((((i + j) / 2) : Nat) : Int)) rfl rfl rfl (Zzk rfl rfl (by omega) (by omega)) ?_
  refine Zc (Iv ((((i + j) / 2) : Nat) : Int)) (Ze (Zf (Zj ?_)))
  refine Zeu (by kernel_rfl) ?_
  refine Zb (.func (.func 45) #[] #[]) (Zb (slv 0 0 n c) (Zb (Iv ((((i + j) / 2) : Nat) : Int)) ?_))
  refine Zd0 (b := 0) (o := 0) (j := ((i + j) / 2) * 36) (m := n) (c := c) (sz := 36) (i := ((((i + j) / 2) : Nat) : Int)) (k := .i64) rfl rfl rfl rfl rfl (by omega) (by omega) (by omega) ?_
  refine Zcp (p := pt 0 (((i + j) / 2) * 36)) (v := Zv (l.getD ((i + j) / 2) default)) rfl rfl rfl (Zei (n := 0) (m := 36) Zh rfl rfl rfl rfl (by have := hn; omega) (by omega)) ?_
  refine Zi (p := pt 1 0) (v := Zv y) ?_
  refine Z2 (e := []) (nid := 0) (Zlx (G := G) (l.getD ((i + j) / 2) default) y) (vals := [Zv (l.getD ((i + j) / 2) default), Zv y]) (v := Iv (Zgz (l.getD ((i + j) / 2) default) y)) (H' := [rwR Zh l, bxB 36 (Zo y)]) rfl rfl rfl rfl rfl rfl rfl ⟨⟨(Zhp (by kernel_rfl) rfl), (Zhp (by kernel_rfl) rfl), trivial⟩, trivial, rfl, rfl, rfl⟩ rfl (by kernel_rfl) ?_
  by_cases h2 : (Zgz (l.getD ((i + j) / 2) default) y) < 0
  refine Zn (vx := Iv (Zgz (l.getD ((i + j) / 2) default) y)) (vy := Iv 0) rfl rfl (.bool true) rfl rfl (Zfg (by omega)) ?_
  refine Zco (Za8 [[], [], [], [1, 2], [1, 2, 3], [], [0, 1, 2, 3, 4, 5], [0, 1, 2, 3, 4, 5, 6]] (by kernel_rfl) (by kernel_rfl)) ?_
  refine Zf (Z8 rfl (Zl (Zb (Iv ((((i + j) / 2) : Nat) : Int)) ?_)))
  refine Zn (vx := Iv ((((i + j) / 2) : Nat) : Int)) (vy := Iv 1) rfl rfl (Iv (((((i + j) / 2) : Nat) : Int) + 1)) rfl rfl (Zci (by omega) (by omega) (by omega)) ?_
  refine Zc (Iv (((((i + j) / 2) : Nat) : Int) + 1)) (Ze (Z1 ?_))
  refine Zab ⟨((((i + j) / 2) + 1), j), ⟨fun k hk => Zj1 hR (show k ≤ (i + j) / 2 by omega) (by omega) (Zg0.1 (by omega)), hB, by omega, by omega⟩, by first | omega | (dsimp only; omega), ?_⟩
  refine Zbz (n := 2) rfl ?_ (by kernel_rfl) (by kernel_rfl)
  repeat (first | exact trivial | refine ⟨.inl rfl, ?_⟩ | refine ⟨.inr ⟨rfl, rfl⟩, ?_⟩ | refine ⟨.inr ⟨congrArg (Value.int .i64) (by first | omega | (dsimp only; omega)), rfl⟩, ?_⟩)
  refine Zn (vx := Iv (Zgz (l.getD ((i + j) / 2) default) y)) (vy := Iv 0) rfl rfl (.bool false) rfl rfl (Zff (by omega)) ?_
  refine Zco (Za8 [[], [], [], [1, 2], [1, 2, 3], [], [0, 1, 2, 3, 4, 5], [0, 1, 2, 3, 4, 5, 6]] (by kernel_rfl) (by kernel_rfl)) ?_
  refine Zf (Zw rfl (Zl (Zb (Iv ((((i + j) / 2) : Nat) : Int)) (Zc (Iv ((((i + j) / 2) : Nat) : Int)) (Ze (Z1 ?_))))))
  refine Zab ⟨(i, ((i + j) / 2)), ⟨hA, fun k (hk : (i + j) / 2 ≤ k) hkn => Zri (h := (i + j) / 2) hR hk (by omega) (fun q => by have := Zg0.2 q; omega), by omega, by omega⟩, by first | omega | (dsimp only; omega), ?_⟩
  refine Zbz (n := 2) rfl ?_ (by kernel_rfl) (by kernel_rfl)
  repeat (first | exact trivial | refine ⟨.inl rfl, ?_⟩ | refine ⟨.inr ⟨rfl, rfl⟩, ?_⟩ | refine ⟨.inr ⟨congrArg (Value.int .i64) (by first | omega | (dsimp only; omega)), rfl⟩, ?_⟩)
  refine Zn (vx := Iv (i : Nat)) (vy := Iv (j : Nat)) rfl rfl (.bool false) rfl rfl (Zff (by omega)) ?_
  refine Ze (Zf (Zw rfl (Zhq (Zgh (Zeh (Zfw rfl (Zf (Zj ?_))))))))
  refine Zeu (by kernel_rfl) ?_
  refine Zb (Iv (i : Nat)) (Zb (Iv (i : Nat)) (Zb (Iv (n : Nat)) ?_))
  by_cases h3 : (i : Nat) < (n : Nat)
  refine Zn (vx := Iv (i : Nat)) (vy := Iv (n : Nat)) rfl rfl (.bool true) rfl rfl (Zfg (by omega)) ?_
  refine Zb (.bool true) (Zb (.func (.func 45) #[] #[]) (Zb (slv 0 0 n c) (Zb (Iv (i : Nat)) ?_)))
  refine Zd0 (b := 0) (o := 0) (j := i * 36) (m := n) (c := c) (sz := 36) (i := (i : Nat)) (k := .i64) rfl rfl rfl rfl rfl (by omega) (by omega) (by omega) ?_
  refine Zcp (p := pt 0 (i * 36)) (v := Zv (l.getD i default)) rfl rfl rfl (Zei (n := 0) (m := 36) Zh rfl rfl rfl rfl (by have := hn; omega) (by omega)) ?_
  refine Zi (p := pt 1 0) (v := Zv y) ?_
  refine Z2 (e := []) (nid := 0) (Zlx (G := G) (l.getD i default) y) (vals := [Zv (l.getD i default), Zv y]) (v := Iv (Zgz (l.getD i default) y)) (H' := [rwR Zh l, bxB 36 (Zo y)]) rfl rfl rfl rfl rfl rfl rfl ⟨⟨(Zhp (by kernel_rfl) rfl), (Zhp (by kernel_rfl) rfl), trivial⟩, trivial, rfl, rfl, rfl⟩ rfl (by kernel_rfl) ?_
  by_cases h4 : (Zgz (l.getD i default) y) = 0
  refine Zn (vx := Iv (Zgz (l.getD i default) y)) (vy := Iv 0) rfl rfl (.bool true) rfl rfl (Zav (by omega)) ?_
  refine Zg (.bool true) (Zc (Iv (i : Nat)) (Zc (.bool true) ?_))
  refine Zco (Za8 [[], [], [], [1, 2], [1, 2, 3], [1, 2, 3, 4], [1, 2, 3, 4], [1, 2, 3, 4], [1, 2, 3, 4, 6, 7], [1, 2, 3, 4, 6, 7, 8], [1, 2, 3, 4], [1, 2, 3, 4, 5, 6, 7, 8, 9, 10], [1, 2, 3, 4, 5, 6, 7, 8, 9, 10, 11], [1, 2, 3, 4, 5, 6, 7, 8, 9, 10, 11, 12], [0, 1, 2, 3, 4, 5, 6, 7, 8, 9, 10, 11], [0, 1, 2, 3, 4, 5, 6, 7, 8, 9, 10, 11, 12, 13, 14]] (by kernel_rfl) (by kernel_rfl)) ?_
  refine Zf (Zq (Zp ?_))
  have hp : Zbo l y = i := Zld hA (by omega) (fun hlt => hB i (by omega) (by omega))
  rw [Zx4 hp (by omega) (by omega), hp]
  exact Zm (v := .tuple #[Iv (i : Nat), .bool true]) rfl rfl rfl (by kernel_rfl) ⟨rfl, rfl, trivial⟩
  refine Zn (vx := Iv (Zgz (l.getD i default) y)) (vy := Iv 0) rfl rfl (.bool false) rfl rfl (Zbb (by omega)) ?_
  refine Zg (.bool false) (Zc (Iv (i : Nat)) (Zc (.bool false) ?_))
  refine Zco (Za8 [[], [], [], [1, 2], [1, 2, 3], [1, 2, 3, 4], [1, 2, 3, 4], [1, 2, 3, 4], [1, 2, 3, 4, 6, 7], [1, 2, 3, 4, 6, 7, 8], [1, 2, 3, 4], [1, 2, 3, 4, 5, 6, 7, 8, 9, 10], [1, 2, 3, 4, 5, 6, 7, 8, 9, 10, 11], [1, 2, 3, 4, 5, 6, 7, 8, 9, 10, 11, 12], [0, 1, 2, 3, 4, 5, 6, 7, 8, 9, 10, 11], [0, 1, 2, 3, 4, 5, 6, 7, 8, 9, 10, 11, 12, 13, 14]] (by kernel_rfl) (by kernel_rfl)) ?_
  refine Zf (Zq (Zp ?_))
  have hp : Zbo l y = i := Zld hA (by omega) (fun hlt => hB i (by omega) (by omega))
  rw [Zx3 hp (fun hlt => by omega), hp]
  exact Zm (v := .tuple #[Iv (i : Nat), .bool false]) rfl rfl rfl (by kernel_rfl) ⟨rfl, rfl, trivial⟩
  refine Zn (vx := Iv (i : Nat)) (vy := Iv (n : Nat)) rfl rfl (.bool false) rfl rfl (Zff (by omega)) ?_
  refine Zb (.bool false) (Za (Za (Za (Za (Za (Za (Za (Za (Zg (.bool false) (Zc (Iv (i : Nat)) (Zc (.bool false) ?_)))))))))))
  refine Zco (Za8 [[], [], [], [1, 2], [1, 2, 3], [1, 2, 3, 4], [1, 2, 3, 4], [1, 2, 3, 4], [1, 2, 3, 4, 6, 7], [1, 2, 3, 4, 6, 7, 8], [1, 2, 3, 4], [1, 2, 3, 4, 5, 6, 7, 8, 9, 10], [1, 2, 3, 4, 5, 6, 7, 8, 9, 10, 11], [1, 2, 3, 4, 5, 6, 7, 8, 9, 10, 11, 12], [0, 1, 2, 3, 4, 5, 6, 7, 8, 9, 10, 11], [0, 1, 2, 3, 4, 5, 6, 7, 8, 9, 10, 11, 12, 13, 14]] (by kernel_rfl) (by kernel_rfl)) ?_
  refine Zf (Zq (Zp ?_))
  have hp : Zbo l y = i := Zld hA (by omega) (fun hlt => hB i (by omega) (by omega))
  rw [Zx3 hp (fun hlt => by omega), hp]
  exact Zm (v := .tuple #[Iv (i : Nat), .bool false]) rfl rfl rfl (by kernel_rfl) ⟨rfl, rfl, trivial⟩
theorem Zmy (l : List Claim) (n c : Nat) (hn : l.length = n) (hc : n ≤ c) (hb : n ≤ 100000) (x : Claim) : Zas Try.prog G 54 [slv 0 0 n c, Zv x] [rwR Zh l] (.tuple #[slv 1 0 (Zad l x).1.length (Zad l x).1.length, Iv (Zad l x).2]) [rwR Zh l, rwB Zh (Zad l x).1] := by
  refine Zcv (fn := Try.f54) (nt := 42) rfl rfl rfl rfl ?_
  refine Zbq 3 (H' := [rwR Zh l, hole, hole, hole]) rfl ?_
  refine Zj (Zl (Zbw (v := Zv x) (b := bxB 36 (Zo x)) (nid := 1) (H' := [rwR Zh l, bxB 36 (Zo x), hole, hole]) (Zc (.slice none 0 0) (Zc (Iv 0) (Ze (Zf (Zj (Zj (Zl (Zb (slv 0 0 n c) ?_))))))))))
  refine Z2 (e := [some (0, 0)]) (nid := 0) (Zj4 (G := G) l n c hn (by omega) (by omega)) (vals := [slv 0 0 n c]) (v := Iv (Zc6 l)) (H' := [rwR Zh l, bxB 36 (Zo x), hole, hole]) rfl rfl rfl rfl rfl rfl rfl ⟨⟨⟨rfl, rfl, rfl, by first | omega | exact Nat.le_refl _, by first | omega | exact Nat.le_refl _⟩, trivial⟩, ⟨(Zae rfl), trivial⟩, rfl, rfl, rfl⟩ rfl (by kernel_rfl) ?_
  by_cases h1 : (Zc6 l) ≠ 0
  refine Zn (vx := Iv (Zc6 l)) (vy := Iv 0) rfl rfl (.bool true) rfl rfl (Zc3 (by omega)) ?_
  refine Zb (.bool true) (Za (Za (Za (Zg (.bool true) (Ze (Zf (Z8 rfl (Zj (Zl (Zc (.slice none 0 0) (Zc (Iv 110) (Ze (Zf ?_)))))))))))))
  refine Zda (Zch.nilTmp (i := 4) (b := 2) true 36 rfl (by decide) rfl) ?_
  refine Zq (Z4 (Zp ?_))
  rw [show Zad l x = ([], 110) from Zya (fun q => by have := q.1; have := q.2; omega)]
  exact Zbe [0, 2] (v := .tuple #[slv 2 0 0 0, Iv 110]) rfl (by kernel_rfl) rfl rfl (by decide) (by simp [Zcl, rwB, rwR, Zh]) ⟨⟨rfl, rfl, rfl, by first | omega | exact Nat.le_refl _ | exact Nat.zero_le _ | (dsimp only; omega), by first | omega | exact Nat.le_refl _ | exact Nat.zero_le _ | (dsimp only; omega)⟩, rfl, trivial⟩
  refine Zn (vx := Iv (Zc6 l)) (vy := Iv 0) rfl rfl (.bool false) rfl rfl (Zbk (by omega)) ?_
  refine Zb (.bool false) (Zi (p := pt 1 0) (v := Zv x) ?_)
  refine Zs (Zgi (G := G) x) (vals := [Zv x]) (res' := Iv (Zdv x)) rfl rfl rfl rfl rfl rfl ?_
  by_cases h2 : (Zdv x) ≠ 0
  refine Zn (vx := Iv (Zdv x)) (vy := Iv 0) rfl rfl (.bool true) rfl rfl (Zc3 (by omega)) ?_
  refine Zg (.bool true) (Ze (Zf (Z8 rfl (Zj (Zl (Zc (.slice none 0 0) (Zc (Iv 110) (Ze (Zf ?_)))))))))
  refine Zda (Zch.nilTmp (i := 4) (b := 2) true 36 rfl (by decide) rfl) ?_
  refine Zq (Z4 (Zp ?_))
  rw [show Zad l x = ([], 110) from Zya (fun q => by have := q.1; have := q.2; omega)]
  exact Zbe [0, 2] (v := .tuple #[slv 2 0 0 0, Iv 110]) rfl (by kernel_rfl) rfl rfl (by decide) (by simp [Zcl, rwB, rwR, Zh]) ⟨⟨rfl, rfl, rfl, by first | omega | exact Nat.le_refl _ | exact Nat.zero_le _ | (dsimp only; omega), by first | omega | exact Nat.le_refl _ | exact Nat.zero_le _ | (dsimp only; omega)⟩, rfl, trivial⟩
  refine Zn (vx := Iv (Zdv x)) (vy := Iv 0) rfl rfl (.bool false) rfl rfl (Zbk (by omega)) ?_
  refine Zg (.bool false) (Ze (Zf (Zw rfl (Z7 (Zf (Zj (Zl (Zb (slv 0 0 n c) (Zi (p := pt 1 0) (v := Zv x) ?_)))))))))
  rcases Bool.eq_false_or_eq_true (Zdw l x) with h3 | h3
  have hpl9 := Zjw l x
  have hfl9 := Zu2 (l := l) (x := x) h3
  refine Z2 (e := [some (0, 0)]) (nid := 0) (Zlg (G := G) l n c hn (by omega) (by omega) x (Zgu (by omega))) (vals := [slv 0 0 n c, Zv x, .func (.func 45) #[] #[]]) (v := .tuple #[Iv (((Zbo l x) : Nat) : Int), .bool (Zdw l x)]) (H' := [rwR Zh l, bxB 36 (Zo x), hole, hole]) rfl rfl rfl rfl rfl rfl rfl ⟨⟨⟨rfl, rfl, rfl, by first | omega | exact Nat.le_refl _, by first | omega | exact Nat.le_refl _⟩, (Zhp (by kernel_rfl) rfl), ⟨by simp [Zfq], by kernel_rfl⟩, trivial⟩, ⟨(Zae rfl), trivial⟩, rfl, rfl, rfl⟩ (by kernel_rfl) (by kernel_rfl) ?_
  refine Zb (.tuple #[Iv (((Zbo l x) : Nat) : Int), .bool (Zdw l x)]) (Zak (vs := #[Iv (((Zbo l x) : Nat) : Int), .bool (Zdw l x)]) (v := Iv (((Zbo l x) : Nat) : Int)) (Zak (vs := #[Iv (((Zbo l x) : Nat) : Int), .bool (Zdw l x)]) (v := .bool (Zdw l x)) (Zc (Iv (((Zbo l x) : Nat) : Int)) (Zc (.bool (Zdw l x)) (Ze (Zf (Zj (Zbm (Zj ?_)))))))))
  refine Zdx (by kernel_rfl) ?_
  refine Zb (.bool (Zdw l x)) (Zb (.bool (Zdw l x)) ?_)
  refine Zrd (by exact congrArg (fun b => some (b == true)) h3) rfl (slv 0 0 n c) rfl ?_
  refine Zrd (by exact congrArg (fun b => some (b == true)) h3) rfl (Iv (((Zbo l x) : Nat) : Int)) rfl ?_
  refine Zd0 (b := 0) (o := 0) (j := (Zbo l x) * 36) (m := n) (c := c) (sz := 36) (i := (((Zbo l x) : Nat) : Int)) (k := .i64) (by exact congrArg (fun b => some (b == true)) h3) rfl rfl rfl rfl (by omega) (by omega) (by omega) ?_
  refine Zcp (p := pt 0 ((Zbo l x) * 36)) (v := Zv (l.getD (Zbo l x) default)) (by exact congrArg (fun b => some (b == true)) h3) rfl rfl (Zei (n := 0) (m := 36) Zh rfl rfl rfl rfl (by have := hn; omega) (by omega)) ?_
  refine Zcp (p := pt 1 0) (v := Zv x) (by exact congrArg (fun b => some (b == true)) h3) rfl rfl (by kernel_rfl) ?_
  rcases Bool.eq_false_or_eq_true (Zr (l.getD (Zbo l x) default) x) with h4 | h4
  refine Zn (vx := Zv (l.getD (Zbo l x) default)) (vy := Zv x) (by exact congrArg (fun b => some (b == true)) h3) rfl (.bool false) rfl rfl (Eq.trans (Zik (l.getD (Zbo l x) default) x) (by rw [h4] <;> rfl)) ?_
  refine Zfj rfl rfl (.bool false) (by show some (if _ then _ else _) = _; rw [h3] <;> rfl) ?_
  refine Zc (.bool false) ?_
  refine Zbh (Zar [[], [0], [0, 1], [0, 1], [0, 1, 2, 3], [0, 1, 2, 3, 4], [0, 1], [0, 1, 2, 3, 4, 5, 6], [0, 1, 2, 3, 4, 5, 6, 7], [0, 1, 2, 3, 4, 5, 6, 7, 8]] (by kernel_rfl) (by kernel_rfl)) ?_
  refine Zf (Zw rfl (Zj (Zl (Zb (.bool (Zdw l x)) (Zc (.bool (Zdw l x)) (Ze (Zf (Z8 (congrArg Value.bool h3) (Zj (Zl (Zb (slv 0 0 n c) ?_)))))))))))
  refine Z2 (e := [some (0, 0)]) (nid := 2) (Zid (G := G) l n c hn (by omega) (by omega)) (vals := [slv 0 0 n c]) (v := slv 2 0 n n) (H' := [rwR Zh l, bxB 36 (Zo x), rwB Zh l, hole]) rfl rfl rfl rfl rfl rfl rfl ⟨⟨⟨rfl, rfl, rfl, by first | omega | exact Nat.le_refl _, by first | omega | exact Nat.le_refl _⟩, trivial⟩, ⟨(Zae rfl), trivial⟩, rfl, rfl, rfl⟩ (by kernel_rfl) (by kernel_rfl) ?_
  refine Zc (slv 2 0 n n) (Zc (Iv 0) (Ze (Zf (Zq (Zag (Z4 (Zp ?_)))))))
  rw [show Zad l x = (l, 0) from Zv7 (by omega) (by omega) (by assumption) (by assumption), show ((l, 0) : List Claim × Int).1.length = n from hn]
  exact Zbe [0, 2] (v := .tuple #[slv 2 0 n n, Iv 0]) rfl (by kernel_rfl) rfl rfl (by decide) (by simp [Zcl, rwB, rwR, Zh]) ⟨⟨rfl, rfl, rfl, by first | omega | exact Nat.le_refl _ | exact Nat.zero_le _ | (dsimp only; omega), by first | omega | exact Nat.le_refl _ | exact Nat.zero_le _ | (dsimp only; omega)⟩, rfl, trivial⟩
  refine Zn (vx := Zv (l.getD (Zbo l x) default)) (vy := Zv x) (by exact congrArg (fun b => some (b == true)) h3) rfl (.bool true) rfl rfl (Eq.trans (Zik (l.getD (Zbo l x) default) x) (by rw [h4] <;> rfl)) ?_
  refine Zfj rfl rfl (.bool true) (by show some (if _ then _ else _) = _; rw [h3] <;> rfl) ?_
  refine Zc (.bool true) ?_
  refine Zbh (Zar [[], [0], [0, 1], [0, 1], [0, 1, 2, 3], [0, 1, 2, 3, 4], [0, 1], [0, 1, 2, 3, 4, 5, 6], [0, 1, 2, 3, 4, 5, 6, 7], [0, 1, 2, 3, 4, 5, 6, 7, 8]] (by kernel_rfl) (by kernel_rfl)) ?_
  refine Zf (Z8 rfl (Zj (Zl (Zc (.slice none 0 0) (Zc (Iv 111) (Ze (Zf ?_)))))))
  refine Zda (Zch.nilTmp (i := 4) (b := 2) true 36 rfl (by decide) rfl) ?_
  refine Zq (Zag (Z4 (Zp ?_)))
  rw [show Zad l x = ([], 111) from Zv6 (by omega) (by omega) (by assumption) (by assumption)]
  exact Zbe [0, 2] (v := .tuple #[slv 2 0 0 0, Iv 111]) rfl (by kernel_rfl) rfl rfl (by decide) (by simp [Zcl, rwB, rwR, Zh]) ⟨⟨rfl, rfl, rfl, by first | omega | exact Nat.le_refl _ | exact Nat.zero_le _ | (dsimp only; omega), by first | omega | exact Nat.le_refl _ | exact Nat.zero_le _ | (dsimp only; omega)⟩, rfl, trivial⟩
  have hpl10 := Zjw l x
  refine Z2 (e := [some (0, 0)]) (nid := 0) (Zlg (G := G) l n c hn (by omega) (by omega) x (Zgu (by omega))) (vals := [slv 0 0 n c, Zv x, .func (.func 45) #[] #[]]) (v := .tuple #[Iv (((Zbo l x) : Nat) : Int), .bool (Zdw l x)]) (H' := [rwR Zh l, bxB 36 (Zo x), hole, hole]) rfl rfl rfl rfl rfl rfl rfl ⟨⟨⟨rfl, rfl, rfl, by first | omega | exact Nat.le_refl _, by first | omega | exact Nat.le_refl _⟩, (Zhp (by kernel_rfl) rfl), ⟨by simp [Zfq], by kernel_rfl⟩, trivial⟩, ⟨(Zae rfl), trivial⟩, rfl, rfl, rfl⟩ (by kernel_rfl) (by kernel_rfl) ?_
  refine Zb (.tuple #[Iv (((Zbo l x) : Nat) : Int), .bool (Zdw l x)]) (Zak (vs := #[Iv (((Zbo l x) : Nat) : Int), .bool (Zdw l x)]) (v := Iv (((Zbo l x) : Nat) : Int)) (Zak (vs := #[Iv (((Zbo l x) : Nat) : Int), .bool (Zdw l x)]) (v := .bool (Zdw l x)) (Zc (Iv (((Zbo l x) : Nat) : Int)) (Zc (.bool (Zdw l x)) (Ze (Zf (Zj (Zbm (Zj ?_)))))))))
  refine Zdx (by kernel_rfl) ?_
  refine Zb (.bool (Zdw l x)) (Zb (.bool (Zdw l x)) ?_)
  refine Zcz (by exact congrArg (fun b => some (b == true)) h3) rfl ?_
  refine Zcz (by exact congrArg (fun b => some (b == true)) h3) rfl ?_
  refine Zcz (by exact congrArg (fun b => some (b == true)) h3) rfl ?_
  refine Zcz (by exact congrArg (fun b => some (b == true)) h3) rfl ?_
  refine Zcz (by exact congrArg (fun b => some (b == true)) h3) rfl ?_
  refine Zcz (by exact congrArg (fun b => some (b == true)) h3) rfl ?_
  refine Zfj rfl rfl (.bool false) (by show some (if _ then _ else _) = _; rw [h3] <;> rfl) ?_
  refine Zc (.bool false) ?_
  refine Zbh (Zar [[], [0], [0, 1], [0, 1], [0, 1, 2, 3], [0, 1, 2, 3, 4], [0, 1], [0, 1, 2, 3, 4, 5, 6], [0, 1, 2, 3, 4, 5, 6, 7], [0, 1, 2, 3, 4, 5, 6, 7, 8]] (by kernel_rfl) (by kernel_rfl)) ?_
  refine Zf (Zw rfl (Zj (Zl (Zb (.bool (Zdw l x)) (Zc (.bool (Zdw l x)) (Ze (Zf (Zw (congrArg Value.bool h3) (Z7 (Z1 (Zf (Zj ?_))))))))))))
  refine Zeu (by kernel_rfl) ?_
  refine Zb (slv 0 0 n c) ?_
  refine Z2 (e := [some (0, 0)]) (nid := 2) (Zid (G := G) l n c hn (by omega) (by omega)) (vals := [slv 0 0 n c]) (v := slv 2 0 n n) (H' := [rwR Zh l, bxB 36 (Zo x), rwB Zh l, hole]) rfl rfl rfl rfl rfl rfl rfl ⟨⟨⟨rfl, rfl, rfl, by first | omega | exact Nat.le_refl _, by first | omega | exact Nat.le_refl _⟩, trivial⟩, ⟨(Zae rfl), trivial⟩, rfl, rfl, rfl⟩ (by kernel_rfl) (by kernel_rfl) ?_
  refine Zb (Iv (((Zbo l x) : Nat) : Int)) (Zi (p := pt 1 0) (v := Zv x) ?_)
  refine Zp5 (vs := [(0, Zv x)]) (v := slv 3 0 1 1) (blk := rwB Zh [x]) (nid := 3) (H' := [rwR Zh l, bxB 36 (Zo x), rwB Zh l, rwB Zh [x]]) rfl rfl rfl (by kernel_rfl) (by kernel_rfl) ?_
  have hin11 := Zsn (x := x) n (Zbo l x) hn (by omega)
  refine Zrb (e := [some (2, 0), some (3, 0)]) (nid := 0) (Zs6 (G := G) l x n (Zbo l x) hn (by omega) (by omega)) (vals := [slv 2 0 n n, Iv (((Zbo l x) : Nat) : Int), slv 3 0 1 1]) (v := slv 2 0 (n + 1) (n + 1)) (H' := [rwR Zh l, bxB 36 (Zo x), rwB Zh (l.take (Zbo l x) ++ x :: l.drop (Zbo l x)), rwB Zh [x]]) rfl rfl rfl rfl rfl rfl ⟨⟨⟨rfl, rfl, rfl, by omega, by omega⟩, rfl, ⟨rfl, rfl, rfl, by omega, by omega⟩, trivial⟩, ⟨(Zht rfl rfl rfl rfl), (Zht rfl rfl rfl rfl), trivial⟩, rfl, rfl, rfl, Nat.le_refl _⟩ rfl rfl (by kernel_rfl) ?_
  refine Zc (slv 2 0 (n + 1) (n + 1)) (Zc (Iv 0) ?_)
  refine Zco (Za8 [[], [0], [], [], [3], [0, 1, 2, 3, 4], [0, 1, 2, 3, 4, 5], [0, 1, 2, 3, 4, 5, 6]] (by kernel_rfl) (by kernel_rfl)) ?_
  refine Zf (Zq (Zp ?_))
  rw [show Zad l x = (l.take (Zbo l x) ++ x :: l.drop (Zbo l x), 0) from Zyb (by omega) (by omega) (by assumption), show ((l.take (Zbo l x) ++ x :: l.drop (Zbo l x), 0) : List Claim × Int).1.length = n + 1 from Zsn n (Zbo l x) hn (by omega)]
  exact Zbe [0, 2] (v := .tuple #[slv 2 0 (n + 1) (n + 1), Iv 0]) rfl (by kernel_rfl) rfl rfl (by decide) (by simp [Zcl, rwB, rwR, Zh]) ⟨⟨rfl, rfl, rfl, by first | omega | exact Nat.le_refl _ | exact Nat.zero_le _ | (dsimp only; omega), by first | omega | exact Nat.le_refl _ | exact Nat.zero_le _ | (dsimp only; omega)⟩, rfl, trivial⟩
end Go.Flat
namespace Go.Flat
open Go.Proofs
variable {G : Glob}
section
variable {l : List Claim} {x : Claim}
theorem Zl5 (hR : Zdi l) {i : Nat} (hi : i < l.length) (h1 : (l.getD i default).region = x.region) (h2 : (l.getD i default).epoch = x.epoch) : Zbo l x = i :=
 Zld (fun k hk => by have := Zns hR hk hi; unfold Zcx at *; omega) (by omega) (fun _ q => by unfold Zcx at q; omega)
theorem Zwc (hR : Zdi l) {i : Nat} (hi : i < l.length) (h1 : (l.getD i default).region = x.region) (h2 : (l.getD i default).epoch = x.epoch) : Zdw l x = true := Zx4 (Zl5 hR hi h1 h2) hi (Ztv.2 ⟨h1, h2⟩)
end
def Z1p (l : List Claim) (x : Claim) : Claim := if Zdw l x then l.getD (Zbo l x) default else (⟨0, 0, 0, 0, dz⟩ : Claim)
def Zy9 (x : Claim) : List Claim → Bool → List Claim → List Claim
  | [], b, acc => if b then acc else acc ++ [x]
  | y :: l, b, acc => if b then Zy9 x l b (acc ++ [y]) else if decide (Zcx x y) then Zy9 x l true (acc ++ [x] ++ [y]) else Zy9 x l b (acc ++ [y])
section
variable {l : List Claim} {x y : Claim} {b : Bool} {acc : List Claim}
end
theorem Zp9 {x : Claim} (h : Zck x) : Zdv x = 0 := if_pos h
theorem Zt0 {l : List Claim} (h : Zdi l) : Zc6 l = 0 := if_pos h
end Go.Flat
