/- Walks. -/
import Derived.Test.YtoafdomlefoenaaN3
import Derived.Test.YtoafdomlefoenaaFlatK
set_option linter.unusedVariables false
set_option linter.unusedSimpArgs false
set_option maxRecDepth 20000
namespace Go.Flat
open Go.Proofs
variable {G : Glob}
theorem Zq9 : IsOver Try.prog 72 36 := ⟨⟨23, 4, 36, by kernel_rfl, fun w => Zc2 (P := Try.prog) (t := 36) rfl w, fun args w => run_callFunc_extern (fn := Try.f72) rfl (by kernel_rfl) (by kernel_rfl) (by kernel_rfl) (by kernel_rfl) args w⟩⟩
theorem Znn (l : List Claim) (x : Claim) (n : Nat) (hn : l.length = n) (hN : n ≤ 1048576) : Zat Try.prog G 67 [slv 0 0 n n, Iv (n : Nat), slv 1 0 1 1] [rwB Zh l, rwL Zh [x]] (slv 0 0 (n + 1) (n + 1)) [rwB Zh (l ++ [x]), rwL Zh [x]] := by
  refine Zcg (fn := Try.f67) (nt := 95) rfl rfl rfl rfl ?_
  refine Zi (Zm (Zc (.slice none 0 0) (Zd (Ze (Zi (Zm (Zb (slv 0 0 n n) (Zb (Iv (n : Nat)) ?_))))))))
  refine Zew (p := slv 0 0 n n) (vl := some (Iv (n : Nat))) (vh := none) (v := slv 0 (n * 36) 0 0) rfl rfl rfl rfl rfl (Zfh (sz := 36) (l := n) rfl rfl rfl (by omega) (by omega) (by omega) rfl (by omega) (by omega) (by omega)) ?_
  refine Zd (Ze (Zi (Zm (Zb (slv 1 0 1 1) (Zbg (p := slv 1 0 1 1) (v := Iv 1) (Zc (Iv 1) (Zd (Ze (Zi (Zi (Zm (Zb (Iv 1) ?_))))))))))))
  refine Zn (vx := Iv 1) (vy := Iv 0) rfl rfl (.bool false) rfl rfl (Zaq (by omega)) ?_
  refine Zd (Ze (Zz rfl (Z9 (Ze (Zi (Zm (Zb (slv 0 0 n n) (Zbg (p := slv 0 0 n n) (v := Iv (n : Nat)) (Zc (Iv (n : Nat)) (Zd (Ze (Zi (Zi (Zm (Zb (Iv (n : Nat)) (Zb (Iv (n : Nat)) ?_))))))))))))))))
  refine Zn (vx := Iv (n : Nat)) (vy := Iv (n : Nat)) rfl rfl (.bool true) rfl rfl (Zaj (by omega)) ?_
  refine Zd (Ze (Z4 rfl (Zi (Zm (Zb (slv 0 0 n n) (Zb (slv 1 0 1 1) ?_))))))
  have hl2 : (l ++ [x]).length = n + 1 := by have := hn; have := (rfl : _ = 1); first | (rw [List.length_append]; omega) | (rw [List.length_append, List.length_take]; omega) | (simp; omega) | simp
  refine Zc1 (p := slv 0 0 n n) (q := slv 1 0 1 1) (v := slv 0 0 (n + 1) (n + 1)) (b := 0) (blk := rwB Zh (l ++ [x])) (H' := [rwB Zh (l ++ [x]), rwL Zh [x]]) rfl rfl rfl (.inl ⟨_, rfl⟩) rfl rfl (Zds Zh (by_ := 64) (k := 1) (n' := n + 1) (ms := [x]) (fun _ => rfl) rfl rfl (by kernel_rfl) rfl rfl (by have := hn; omega) (by omega) (by decide) (by omega)) rfl (by kernel_rfl) ?_
  refine Zc (slv 0 0 (n + 1) (n + 1)) (Zd (Ze (Zs (Zv (Zq ?_)))))
  exact Zk (v := slv 0 0 (n + 1) (n + 1)) rfl rfl rfl (by kernel_rfl) ⟨rfl, rfl, rfl, by first | omega | exact Nat.le_refl _ | exact Nat.zero_le _ | (dsimp only; omega), by first | omega | exact Nat.le_refl _ | exact Nat.zero_le _ | (dsimp only; omega)⟩
theorem Zno (l : List Claim) (x : Claim) (n i : Nat) (hn : l.length = n) (hi : i < n) (hN : n ≤ 1048576) : Zat Try.prog G 67 [slv 0 0 n n, Iv i, slv 1 0 1 1] [rwB Zh l, rwL Zh [x]] (slv 0 0 (n + 1) (n + 1)) [rwB Zh (l.take i ++ x :: l.drop i), rwL Zh [x]] := by
  refine Zqv (cod := Zh) (fn := Try.f67) (nt := 95) rfl rfl rfl rfl (fun _ => rfl) l x n i hn hi ?_ ?_
  · intro c' hc
    refine Zi (Zm (Zc (.slice none 0 0) (Zd (Ze (Zi (Zm (Zb (slv 0 0 n c') (Zb (Iv (i : Nat)) ?_))))))))
    refine Zew (p := slv 0 0 n c') (vl := some (Iv (i : Nat))) (vh := none) (v := slv 0 (i * 36) (n - i) (c' - i)) rfl rfl rfl rfl rfl (Zfh (sz := 36) (l := i) rfl rfl rfl (by omega) (by omega) (by omega) rfl (by omega) (by omega) (by omega)) ?_
    refine Zd (Ze (Zi (Zm (Zb (slv 1 0 1 1) (Zbg (p := slv 1 0 1 1) (v := Iv 1) (Zc (Iv 1) (Zd (Ze (Zi (Zi (Zm (Zb (Iv 1) ?_))))))))))))
    refine Zn (vx := Iv 1) (vy := Iv 0) rfl rfl (.bool false) rfl rfl (Zaq (by omega)) ?_
    refine Zd (Ze (Zz rfl (Z9 (Ze (Zi (Zm (Zb (slv 0 0 n c') (Zbg (p := slv 0 0 n c') (v := Iv (n : Nat)) (Zc (Iv (n : Nat)) (Zd (Ze (Zi (Zi (Zm (Zb (Iv (i : Nat)) (Zb (Iv (n : Nat)) ?_))))))))))))))))
    refine Zn (vx := Iv (i : Nat)) (vy := Iv (n : Nat)) rfl rfl (.bool false) rfl rfl (Zaq (by omega)) ?_
    refine Zd (Ze (Zz rfl (Z9 (Ze (Zi (Zi (Zm (Zb (Iv (n : Nat)) (Zb (Iv 1) ?_)))))))))
    refine Zn (vx := Iv (n : Nat)) (vy := Iv 1) rfl rfl (Iv ((n : Nat) + 1)) rfl rfl (Zbi (by omega) (by omega) (by omega)) ?_
    refine Zb (slv 0 0 n c') ?_
    refine Zy7 (p := slv 0 0 n c') (v := Iv (c' : Nat)) rfl rfl rfl (by kernel_rfl) ?_
    refine Zn (vx := Iv ((n : Nat) + 1)) (vy := Iv (c' : Nat)) rfl rfl (.bool false) rfl rfl (Zfd (by omega)) ?_
    refine Zd (Ze (Zz rfl (Z9 (Ze (Zi (Zm (Zb (slv 0 0 n c') (Zb (Iv (n : Nat)) (Zb (Iv 1) ?_)))))))))
    refine Zn (vx := Iv (n : Nat)) (vy := Iv 1) rfl rfl (Iv ((n : Nat) + 1)) rfl rfl (Zbi (by omega) (by omega) (by omega)) ?_
    refine Zew (p := slv 0 0 n c') (vl := none) (vh := some (Iv ((n : Nat) + 1))) (v := slv 0 0 (n + 1) c') rfl rfl rfl rfl rfl (Zkx (h := n + 1) rfl rfl (by omega) (by omega) rfl) ?_
    refine Zc (slv 0 0 (n + 1) c') (Zd (Ze (Zi (Zi (Zm (Zb (slv 1 0 1 1) (Zb (slv 0 0 (n + 1) c') (Zb (Iv (i : Nat)) (Zb (Iv 1) ?_)))))))))
    refine Zn (vx := Iv (i : Nat)) (vy := Iv 1) rfl rfl (Iv ((i : Nat) + 1)) rfl rfl (Zbi (by omega) (by omega) (by omega)) ?_
    refine Zew (p := slv 0 0 (n + 1) c') (vl := some (Iv ((i : Nat) + 1))) (vh := none) (v := slv 0 ((i + 1) * 36) (n - i) (c' - i - 1)) rfl rfl rfl rfl rfl (Zfh (sz := 36) (l := i + 1) rfl rfl rfl (by omega) (by omega) (by omega) rfl (by omega) (by omega) (by omega)) ?_
    refine Zz6 (sz := 36) Zq9 (p := slv 1 0 1 1) (q := slv 0 ((i + 1) * 36) (n - i) (c' - i - 1)) (v := .bool false) rfl rfl rfl rfl (Zwz Zh (n := n) (i := i) rfl rfl rfl (by decide) hi (by first | (show _ ≤ (Zh.row l ++ List.replicate ((c' - n) * 36) dead).length; rw [List.length_append, Zh.row_len, List.length_replicate, hn]; show (n + 1) * 36 ≤ n * 36 + (c' - n) * 36; omega) | (show _ ≤ (splice (Zh.row l ++ List.replicate ((c' - n) * 36) dead) _ _).length; rw [Zc8 (by rw [Zh.row_len, List.length_drop, List.length_append, Zh.row_len, List.length_replicate, hn]; show (i + 1) * 36 + (n - i) * 36 ≤ n * 36 + (c' - n) * 36; omega), List.length_append, Zh.row_len, List.length_replicate, hn]; show (n + 1) * 36 ≤ n * 36 + (c' - n) * 36; omega)) (by omega) (by omega)) ?_
    refine Zcx (vx := .bool false) rfl rfl (.bool true) rfl Za3 ?_
    refine Zd (Ze (Z4 rfl (Zi ?_)))
    refine Zek (by kernel_rfl) ?_
    refine Zb (slv 0 0 (n + 1) c') (Zb (Iv (i : Nat)) (Zb (Iv 1) ?_))
    refine Zn (vx := Iv (i : Nat)) (vy := Iv 1) rfl rfl (Iv ((i : Nat) + 1)) rfl rfl (Zbi (by omega) (by omega) (by omega)) ?_
    refine Zew (p := slv 0 0 (n + 1) c') (vl := some (Iv ((i : Nat) + 1))) (vh := none) (v := slv 0 ((i + 1) * 36) (n - i) (c' - i - 1)) rfl rfl rfl rfl rfl (Zfh (sz := 36) (l := i + 1) rfl rfl rfl (by omega) (by omega) (by omega) rfl (by omega) (by omega) (by omega)) ?_
    refine Zb (slv 0 0 (n + 1) c') (Zb (Iv (i : Nat)) ?_)
    refine Zew (p := slv 0 0 (n + 1) c') (vl := some (Iv (i : Nat))) (vh := none) (v := slv 0 (i * 36) (n + 1 - i) (c' - i)) rfl rfl rfl rfl rfl (Zfh (sz := 36) (l := i) rfl rfl rfl (by omega) (by omega) (by omega) rfl (by omega) (by omega) (by omega)) ?_
    refine Zpx (p := slv 0 ((i + 1) * 36) (n - i) (c' - i - 1)) (q := slv 0 (i * 36) (n + 1 - i) (c' - i)) (v := Iv (((n : Nat) : Int) - ((i : Nat) : Int))) (b := 0) (blk := (exB 36 (splice (Zh.row l ++ List.replicate ((c' - n) * 36) dead) ((i + 1) * 36) (Zh.row (l.drop i))))) (H' := [(exB 36 (splice (Zh.row l ++ List.replicate ((c' - n) * 36) dead) ((i + 1) * 36) (Zh.row (l.drop i)))), rwL Zh [x]]) rfl rfl rfl rfl (Ztt (cod := Zh) (by_ := 64) (l := l) (n := n) (i := i) (sz := 36) (A := (exB 36 (Zh.row l ++ List.replicate ((c' - n) * 36) dead))) (B := (exB 36 (Zh.row l ++ List.replicate ((c' - n) * 36) dead))) (D := List.replicate ((c' - n) * 36) dead) (fun _ => rfl) rfl rfl rfl rfl rfl rfl hn hi (by omega) (by omega) (by omega) (by omega) (by first | (show _ ≤ (Zh.row l ++ List.replicate ((c' - n) * 36) dead).length; rw [List.length_append, Zh.row_len, List.length_replicate, hn]; show (n + 1) * 36 ≤ n * 36 + (c' - n) * 36; omega) | (show _ ≤ (splice (Zh.row l ++ List.replicate ((c' - n) * 36) dead) _ _).length; rw [Zc8 (by rw [Zh.row_len, List.length_drop, List.length_append, Zh.row_len, List.length_replicate, hn]; show (i + 1) * 36 + (n - i) * 36 ≤ n * 36 + (c' - n) * 36; omega), List.length_append, Zh.row_len, List.length_replicate, hn]; show (n + 1) * 36 ≤ n * 36 + (c' - n) * 36; omega)) (by show _ ≤ (Zh.row l ++ List.replicate ((c' - n) * 36) dead).length; rw [List.length_append, Zh.row_len, List.length_replicate, hn]; show i * 36 + (n + 1 - i) * 36 ≤ n * 36 + (c' - n) * 36; omega) (by omega)) (by kernel_rfl) ?_
    refine Zbv (Za4 [[], [], [], [1, 2], [0, 1, 2, 3], [], [], [5, 6], [0, 1, 2, 3, 4, 5, 6, 7]] (by kernel_rfl) (by kernel_rfl)) ?_
    refine Ze (Zi (Zm (Zb (slv 0 0 (n + 1) c') (Zb (Iv (i : Nat)) ?_))))
    refine Zew (p := slv 0 0 (n + 1) c') (vl := some (Iv (i : Nat))) (vh := none) (v := slv 0 (i * 36) (n + 1 - i) (c' - i)) rfl rfl rfl rfl rfl (Zfh (sz := 36) (l := i) rfl rfl rfl (by omega) (by omega) (by omega) rfl (by omega) (by omega) (by omega)) ?_
    refine Zb (slv 1 0 1 1) ?_
    refine Zpx (p := slv 0 (i * 36) (n + 1 - i) (c' - i)) (q := slv 1 0 1 1) (v := Iv 1) (b := 0) (blk := (exB 36 (splice (splice (Zh.row l ++ List.replicate ((c' - n) * 36) dead) ((i + 1) * 36) (Zh.row (l.drop i))) (i * 36) (Zh.row [x])))) (H' := [(exB 36 (splice (splice (Zh.row l ++ List.replicate ((c' - n) * 36) dead) ((i + 1) * 36) (Zh.row (l.drop i))) (i * 36) (Zh.row [x]))), rwL Zh [x]]) rfl rfl rfl rfl (Zqi (cod := Zh) (by_ := 64) (x := x) (n := n) (i := i) (sz := 36) (A := (exB 36 (splice (Zh.row l ++ List.replicate ((c' - n) * 36) dead) ((i + 1) * 36) (Zh.row (l.drop i))))) (fun _ => rfl) rfl rfl rfl rfl rfl hi (by omega) (by omega) (by first | (show _ ≤ (Zh.row l ++ List.replicate ((c' - n) * 36) dead).length; rw [List.length_append, Zh.row_len, List.length_replicate, hn]; show (n + 1) * 36 ≤ n * 36 + (c' - n) * 36; omega) | (show _ ≤ (splice (Zh.row l ++ List.replicate ((c' - n) * 36) dead) _ _).length; rw [Zc8 (by rw [Zh.row_len, List.length_drop, List.length_append, Zh.row_len, List.length_replicate, hn]; show (i + 1) * 36 + (n - i) * 36 ≤ n * 36 + (c' - n) * 36; omega), List.length_append, Zh.row_len, List.length_replicate, hn]; show (n + 1) * 36 ≤ n * 36 + (c' - n) * 36; omega)) rfl) (by kernel_rfl) ?_
    refine Zd (Ze (Zi (Zm (Zb (slv 0 0 (n + 1) c') (Zc (slv 0 0 (n + 1) c') (Zd (Ze (Zs (Zv ?_)))))))))
    exact Zxl (v := slv 0 0 (n + 1) c') rfl ⟨⟨List.drop 36 (List.replicate ((c' - n) * 36) dead), congrArg (fun q => some (exB 36 q)) (Z0p rfl hn hi (by rw [List.length_replicate]; omega)), by rw [List.length_drop, List.length_replicate]; show (n + 1) * 36 + _ = c' * 36; omega⟩, rfl, rfl⟩
  refine Za8 1 (H' := [(exB 36 (Zh.row l)), rwL Zh [x], hole]) rfl ?_
  refine Zi (Zm (Zc (.slice none 0 0) (Zd (Ze (Zi (Zm (Zb (slv 0 0 n n) (Zb (Iv (i : Nat)) ?_))))))))
  refine Zew (p := slv 0 0 n n) (vl := some (Iv (i : Nat))) (vh := none) (v := slv 0 (i * 36) (n - i) (n - i)) rfl rfl rfl rfl rfl (Zfh (sz := 36) (l := i) rfl rfl rfl (by omega) (by omega) (by omega) rfl (by omega) (by omega) (by omega)) ?_
  refine Zd (Ze (Zi (Zm (Zb (slv 1 0 1 1) (Zbg (p := slv 1 0 1 1) (v := Iv 1) (Zc (Iv 1) (Zd (Ze (Zi (Zi (Zm (Zb (Iv 1) ?_))))))))))))
  refine Zn (vx := Iv 1) (vy := Iv 0) rfl rfl (.bool false) rfl rfl (Zaq (by omega)) ?_
  refine Zd (Ze (Zz rfl (Z9 (Ze (Zi (Zm (Zb (slv 0 0 n n) (Zbg (p := slv 0 0 n n) (v := Iv (n : Nat)) (Zc (Iv (n : Nat)) (Zd (Ze (Zi (Zi (Zm (Zb (Iv (i : Nat)) (Zb (Iv (n : Nat)) ?_))))))))))))))))
  refine Zn (vx := Iv (i : Nat)) (vy := Iv (n : Nat)) rfl rfl (.bool false) rfl rfl (Zaq (by omega)) ?_
  refine Zd (Ze (Zz rfl (Z9 (Ze (Zi (Zi (Zm (Zb (Iv (n : Nat)) (Zb (Iv 1) ?_)))))))))
  refine Zn (vx := Iv (n : Nat)) (vy := Iv 1) rfl rfl (Iv ((n : Nat) + 1)) rfl rfl (Zbi (by omega) (by omega) (by omega)) ?_
  refine Zb (slv 0 0 n n) ?_
  refine Zy7 (p := slv 0 0 n n) (v := Iv (n : Nat)) rfl rfl rfl (by kernel_rfl) ?_
  refine Zn (vx := Iv ((n : Nat) + 1)) (vy := Iv (n : Nat)) rfl rfl (.bool true) rfl rfl (Zfe (by omega)) ?_
  refine Zd (Ze (Z4 rfl (Zi (Zm (Zb (slv 0 0 n n) (Zb (Iv (i : Nat)) ?_))))))
  refine Zew (p := slv 0 0 n n) (vl := none) (vh := some (Iv (i : Nat))) (v := slv 0 0 i n) rfl rfl rfl rfl rfl (Zkx (h := i) rfl rfl (by omega) (by omega) rfl) ?_
  refine Zb (Iv (n : Nat)) (Zb (Iv 1) ?_)
  refine Zn (vx := Iv (n : Nat)) (vy := Iv 1) rfl rfl (Iv ((n : Nat) + 1)) rfl rfl (Zbi (by omega) (by omega) (by omega)) ?_
  refine Zb (Iv (i : Nat)) ?_
  refine Zn (vx := Iv ((n : Nat) + 1)) (vy := Iv (i : Nat)) rfl rfl (Iv (((n : Nat) : Int) - ((i : Nat) : Int) + 1)) rfl rfl (Zg4 (by omega) (by omega) (by omega)) ?_
  refine Zz5 (p := slv 0 0 i n) (q := Iv (((n : Nat) : Int) - ((i : Nat) : Int) + 1)) (v := slv 2 0 (n + 1) (n + 1)) (blk := (mxW 36 ((((Zh.row l).drop 0).take (i * 36)) ++ List.replicate ((n + 1 - i) * 36) dead))) (nid := 2) (H' := [(exB 36 (Zh.row l)), rwL Zh [x], (mxW 36 ((((Zh.row l).drop 0).take (i * 36)) ++ List.replicate ((n + 1 - i) * 36) dead))]) rfl rfl rfl rfl rfl (Zxo Zh (by_ := 64) rfl rfl rfl rfl hn hi (by omega) (by omega) (by decide) (by omega) rfl) (by kernel_rfl) ?_
  refine Zc (slv 2 0 (n + 1) (n + 1)) (Zd (Ze (Zi (Zm (Zb (slv 2 0 (n + 1) (n + 1)) (Zb (Iv (i : Nat)) ?_))))))
  refine Zew (p := slv 2 0 (n + 1) (n + 1)) (vl := some (Iv (i : Nat))) (vh := none) (v := slv 2 (i * 36) (n + 1 - i) (n + 1 - i)) rfl rfl rfl rfl rfl (Zfh (sz := 36) (l := i) rfl rfl rfl (by omega) (by omega) (by omega) rfl (by omega) (by omega) (by omega)) ?_
  refine Zb (slv 1 0 1 1) ?_
  refine Zpx (p := slv 2 (i * 36) (n + 1 - i) (n + 1 - i)) (q := slv 1 0 1 1) (v := Iv 1) (b := 2) (blk := (mxW 36 (splice ((((Zh.row l).drop 0).take (i * 36)) ++ List.replicate ((n + 1 - i) * 36) dead) (i * 36) (Zh.row [x])))) (H' := [(exB 36 (Zh.row l)), rwL Zh [x], (mxW 36 (splice ((((Zh.row l).drop 0).take (i * 36)) ++ List.replicate ((n + 1 - i) * 36) dead) (i * 36) (Zh.row [x])))]) rfl rfl rfl rfl (Zqi (cod := Zh) (by_ := 64) (x := x) (n := n) (i := i) (sz := 36) (A := (mxW 36 ((((Zh.row l).drop 0).take (i * 36)) ++ List.replicate ((n + 1 - i) * 36) dead))) (fun _ => rfl) rfl rfl rfl rfl rfl hi (by omega) (by omega) (by first | exact Nat.le_of_eq (Eq.symm (by rw [List.length_append, List.length_take, List.length_drop, Zh.row_len, List.length_replicate, hn]; show min (i * 36) (n * 36 - 0) + (n + 1 - i) * 36 = (n + 1) * 36; omega : (((Zh.row l).drop 0).take (i * 36) ++ List.replicate ((n + 1 - i) * 36) dead).length = (n + 1) * 36)) | (show _ ≤ (splice (((Zh.row l).drop 0).take (i * 36) ++ List.replicate ((n + 1 - i) * 36) dead) _ _).length; rw [Zc8 (by rw [(by rw [List.length_append, List.length_take, List.length_drop, Zh.row_len, List.length_replicate, hn]; show min (i * 36) (n * 36 - 0) + (n + 1 - i) * 36 = (n + 1) * 36; omega : (((Zh.row l).drop 0).take (i * 36) ++ List.replicate ((n + 1 - i) * 36) dead).length = (n + 1) * 36), Zh.row_len]; show i * 36 + 1 * 36 ≤ (n + 1) * 36; omega), (by rw [List.length_append, List.length_take, List.length_drop, Zh.row_len, List.length_replicate, hn]; show min (i * 36) (n * 36 - 0) + (n + 1 - i) * 36 = (n + 1) * 36; omega : (((Zh.row l).drop 0).take (i * 36) ++ List.replicate ((n + 1 - i) * 36) dead).length = (n + 1) * 36)]; exact Nat.le_refl _)) rfl) (by kernel_rfl) ?_
  refine Zd (Ze (Zi ?_))
  refine Zek (by kernel_rfl) ?_
  refine Zb (slv 2 0 (n + 1) (n + 1)) (Zb (Iv (i : Nat)) (Zb (Iv 1) ?_))
  refine Zn (vx := Iv (i : Nat)) (vy := Iv 1) rfl rfl (Iv ((i : Nat) + 1)) rfl rfl (Zbi (by omega) (by omega) (by omega)) ?_
  refine Zew (p := slv 2 0 (n + 1) (n + 1)) (vl := some (Iv ((i : Nat) + 1))) (vh := none) (v := slv 2 ((i + 1) * 36) (n - i) (n - i)) rfl rfl rfl rfl rfl (Zfh (sz := 36) (l := i + 1) rfl rfl rfl (by omega) (by omega) (by omega) rfl (by omega) (by omega) (by omega)) ?_
  refine Zb (slv 0 0 n n) (Zb (Iv (i : Nat)) ?_)
  refine Zew (p := slv 0 0 n n) (vl := some (Iv (i : Nat))) (vh := none) (v := slv 0 (i * 36) (n - i) (n - i)) rfl rfl rfl rfl rfl (Zfh (sz := 36) (l := i) rfl rfl rfl (by omega) (by omega) (by omega) rfl (by omega) (by omega) (by omega)) ?_
  refine Zpx (p := slv 2 ((i + 1) * 36) (n - i) (n - i)) (q := slv 0 (i * 36) (n - i) (n - i)) (v := Iv (((n : Nat) : Int) - ((i : Nat) : Int))) (b := 2) (blk := (mxW 36 (splice (splice ((((Zh.row l).drop 0).take (i * 36)) ++ List.replicate ((n + 1 - i) * 36) dead) (i * 36) (Zh.row [x])) ((i + 1) * 36) (Zh.row (l.drop i))))) (H' := [(exB 36 (Zh.row l)), rwL Zh [x], (mxW 36 (splice (splice ((((Zh.row l).drop 0).take (i * 36)) ++ List.replicate ((n + 1 - i) * 36) dead) (i * 36) (Zh.row [x])) ((i + 1) * 36) (Zh.row (l.drop i))))]) rfl rfl rfl rfl (Ztt (cod := Zh) (by_ := 64) (l := l) (n := n) (i := i) (sz := 36) (A := (mxW 36 (splice ((((Zh.row l).drop 0).take (i * 36)) ++ List.replicate ((n + 1 - i) * 36) dead) (i * 36) (Zh.row [x])))) (B := (exB 36 (Zh.row l))) (D := []) (fun _ => rfl) rfl rfl rfl rfl rfl (List.append_nil _).symm hn hi (by omega) (by omega) (by omega) (by omega) (by first | exact Nat.le_of_eq (Eq.symm (by rw [List.length_append, List.length_take, List.length_drop, Zh.row_len, List.length_replicate, hn]; show min (i * 36) (n * 36 - 0) + (n + 1 - i) * 36 = (n + 1) * 36; omega : (((Zh.row l).drop 0).take (i * 36) ++ List.replicate ((n + 1 - i) * 36) dead).length = (n + 1) * 36)) | (show _ ≤ (splice (((Zh.row l).drop 0).take (i * 36) ++ List.replicate ((n + 1 - i) * 36) dead) _ _).length; rw [Zc8 (by rw [(by rw [List.length_append, List.length_take, List.length_drop, Zh.row_len, List.length_replicate, hn]; show min (i * 36) (n * 36 - 0) + (n + 1 - i) * 36 = (n + 1) * 36; omega : (((Zh.row l).drop 0).take (i * 36) ++ List.replicate ((n + 1 - i) * 36) dead).length = (n + 1) * 36), Zh.row_len]; show i * 36 + 1 * 36 ≤ (n + 1) * 36; omega), (by rw [List.length_append, List.length_take, List.length_drop, Zh.row_len, List.length_replicate, hn]; show min (i * 36) (n * 36 - 0) + (n + 1 - i) * 36 = (n + 1) * 36; omega : (((Zh.row l).drop 0).take (i * 36) ++ List.replicate ((n + 1 - i) * 36) dead).length = (n + 1) * 36)]; exact Nat.le_refl _)) (by show _ ≤ (Zh.row l).length; rw [Zh.row_len, hn]; show i * 36 + (n - i) * 36 ≤ n * 36; omega) (by omega)) (by kernel_rfl) ?_
  refine Zbv (Za4 [[], [], [], [1, 2], [0, 1, 2, 3], [], [], [5, 6], [0, 1, 2, 3, 4, 5, 6, 7]] (by kernel_rfl) (by kernel_rfl)) ?_
  refine Ze (Zi (Zm (Zb (slv 2 0 (n + 1) (n + 1)) (Zc (slv 2 0 (n + 1) (n + 1)) (Zd (Ze (Zs (Zv ?_))))))))
  exact Zxl (v := slv 2 0 (n + 1) (n + 1)) rfl ⟨congrArg (fun q => some (mxW 36 q)) (Z0q rfl hn hi (by rw [List.length_replicate])), rfl, rfl⟩
theorem Zuk (l : List Claim) (x : Claim) (n i : Nat) (hn : l.length = n) (hi : i ≤ n) (hN : n ≤ 1048576) : Zat Try.prog G 67 [slv 0 0 n n, Iv i, slv 1 0 1 1] [rwB Zh l, rwL Zh [x]] (slv 0 0 (n + 1) (n + 1)) [rwB Zh (l.take i ++ x :: l.drop i), rwL Zh [x]] := by
 rcases Nat.lt_or_ge i n with h | h
 ·exact Zno l x n i hn h hN
 ·obtain rfl : i = n := by omega
  have := Znn (G := G) l x i hn hN
  rw [show l.take i ++ x :: l.drop i = l ++ [x] from by subst hn; simp]
  exact this
theorem Z0j {P : Program} {src dst : TypeId} {k' : IntKind} {n : Int} (h1 : P.underlying src = some (.int k')) (h2 : P.underlying dst = some (.int .u64)) (g1 : 0 ≤ n) (g2 : n ≤ 9223372036854775807) : Zlm P src dst (.int k' n) = some (.int .u64 n) := by
 rw [Zqg h1 h2]
 simp only [IntKind.wrap, IntKind.bits, IntKind.signed, Bool.false_and]
 congr 2
 simp
 omega
theorem Z1f {P : Program} {t : TypeId} {u v : Operand} {x z : Int} {yk : IntKind} (h0 : 0 ≤ x) (hz : x / 2 = z) : Zd7 P .shr t u v (.int .u64 x) (.int yk 1) = some (.int .u64 z) := Zun (.inr rfl) (by
 subst hz
 simp only [Op.shift]
 rw [if_neg (by omega)]
 have hm : min ((1 : Int).toNat) IntKind.u64.bits = 1 := rfl
 simp only [Zbe, hm]
 rw [Int.fdiv_eq_ediv_of_nonneg _ (Int.le_of_lt (Int.pow_pos (by decide)))]; rfl) rfl

section
variable {l : List Claim} {x : Claim}
theorem Zlj {a b c : Claim} (h1 : Zbm a b) (h2 : Zbm b c) : Zbm a c := by unfold Zbm at *; omega
theorem Zo0 (hR : Zbw l) {i : Nat} : ∀ {j : Nat}, i < j → j < l.length → Zbm (l.getD i default) (l.getD j default) := by
 intro j
 induction j with
 | zero => intro h; omega
 | succ j ih =>
  intro h1 h2
  have h3 := (hR (j + 1) h2).2 (by omega)
  rw [Nat.add_sub_cancel] at h3
  rcases Nat.lt_or_ge i j with h | h
  ·exact Zlj (ih h (by omega)) h3
  ·obtain rfl : i = j := by omega
   exact h3
theorem Zky (hR : Zbw l) {k h : Nat} (hk : k ≤ h) (hh : h < l.length) (ha : Zbm (l.getD h default) x) : Zbm (l.getD k default) x := by
 rcases Nat.lt_or_ge k h with h1 | h1
 ·exact Zlj (Zo0 hR h1 hh) ha
 ·obtain rfl : k = h := by omega
  exact ha
theorem Zs0 (hR : Zbw l) {k h : Nat} (hk : h ≤ k) (hh : k < l.length) (ha : ¬ Zbm (l.getD h default) x) : ¬ Zbm (l.getD k default) x := fun q => ha (Zky hR hk hh q)
def Zbq (l : List Claim) (x : Claim) : Nat := (l.takeWhile fun y => decide (Zbm y x)).length
theorem Zpv (l : List Claim) (x : Claim) : Zbq l x ≤ l.length := by
 unfold Zbq
 induction l with
 | nil => simp
 | cons y l ih => rw [List.takeWhile_cons]; split <;> simp <;> omega
theorem Zmf : ∀ {l : List Claim} {i : Nat}, (∀ k, k < i → Zbm (l.getD k default) x) → i ≤ l.length → (i < l.length → ¬ Zbm (l.getD i default) x) → Zbq l x = i := by
  intro l
  induction l with
  | nil => intro i _ h2 _; have : i = 0 := by simpa using h2
           subst this; rfl
  | cons y l ih =>
    intro i h1 h2 h3
    unfold Zbq
    cases i with
    | zero =>
      rw [List.takeWhile_cons, if_neg (by simpa using h3 (by simp))]; rfl
    | succ i =>
      have h0 : Zbm y x := h1 0 (by omega)
      rw [List.takeWhile_cons, if_pos (by simpa using h0), List.length_cons]
      have := ih (i := i) (fun k hk => h1 (k + 1) (by omega)) (by simpa using h2) (fun h => h3 (by simpa using h))
      unfold Zbq at this
      rw [this]
def Zdm (l : List Claim) (x : Claim) : Bool := decide (Zbq l x < l.length) && decide (Zhr (l.getD (Zbq l x) default) x = 0)
theorem Zy1 {i : Nat} (h : Zbq l x = i) (h1 : i < l.length) (h2 : Zhr (l.getD i default) x = 0) : Zdm l x = true := by
 unfold Zdm; rw [h, decide_eq_true h1, decide_eq_true h2]; rfl
theorem Zv4 {i : Nat} (h : Zbq l x = i) (h1 : i < l.length → ¬ Zhr (l.getD i default) x = 0) : Zdm l x = false := by
 unfold Zdm; rw [h]
 by_cases hi : i < l.length
 ·rw [decide_eq_false (h1 hi), Bool.and_false]
 ·rw [decide_eq_false hi]; rfl
theorem Zzo (h : Zdm l x = true) : Zbq l x < l.length := by
 unfold Zdm at h; rw [Bool.and_eq_true] at h; exact of_decide_eq_true h.1
end
def Zae (l : List Claim) (x : Claim) : List Claim × Int :=
  if Zec l = 0 ∧ Ze6 x = 0 then (if Zdm l x then (if Zu (l.getD (Zbq l x) default) x then (l, 0) else ([], 111)) else (l.take (Zbq l x) ++ x :: l.drop (Zbq l x), 0)) else ([], 110)
section
variable {l : List Claim} {x : Claim}
theorem Zuc (h : ¬ (Zec l = 0 ∧ Ze6 x = 0)) : Zae l x = ([], 110) := if_neg h
theorem Zy8 (h : Zec l = 0) (h1 : Ze6 x = 0) (h2 : Zdm l x = true) (h3 : Zu (l.getD (Zbq l x) default) x = false) : Zae l x = ([], 111) := by unfold Zae; rw [if_pos ⟨h, h1⟩, if_pos h2, if_neg (by rw [h3]; decide)]
theorem Zw5 (h : Zec l = 0) (h1 : Ze6 x = 0) (h2 : Zdm l x = true) (h3 : Zu (l.getD (Zbq l x) default) x = true) : Zae l x = (l, 0) := by unfold Zae; rw [if_pos ⟨h, h1⟩, if_pos h2, if_pos h3]
theorem Zw6 (h : Zec l = 0) (h1 : Ze6 x = 0) (h2 : Zdm l x = false) : Zae l x = (l.take (Zbq l x) ++ x :: l.drop (Zbq l x), 0) := by unfold Zae; rw [if_pos ⟨h, h1⟩, if_neg (by rw [h2]; decide)]
theorem Zt1 (n i : Nat) (h : l.length = n) (hi : i ≤ n) : (l.take i ++ x :: l.drop i).length = n + 1 := by simp; omega
end
theorem Zmj (l : List Claim) (n c : Nat) (hn : l.length = n) (hc : n ≤ c) (hb : n ≤ 1048576) (y : Claim) (hR : Zbw l) : Zat Try.prog G 66 [slv 0 0 n c, Zx y, .func (.func 45) #[] #[]] [rwR Zh l] (.tuple #[Iv (Zbq l y : Nat), .bool (Zdm l y)]) [rwR Zh l] := by
  refine Zcg (fn := Try.f66) (nt := 49) rfl rfl rfl rfl ?_
  refine Za8 1 (H' := [rwR Zh l, hole]) rfl ?_
  refine Zi (Zm (Zbn (v := Zx y) (b := bxB 36 (Zr y)) (nid := 1) (H' := [rwR Zh l, bxB 36 (Zr y)]) (Zc (Iv 0) (Zc (.bool false) (Zd (Ze (Zi (Zm (Zb (slv 0 0 n c) (Zbg (p := slv 0 0 n c) (v := Iv (n : Nat)) (Zc (Iv (n : Nat)) (Zd (Ze (Zi (Zm (Zb (Iv (n : Nat)) (Zc (Iv 0) (Zc (Iv (n : Nat)) ?_))))))))))))))))))
  refine Zd (Ze (Zi (Zav ?_)))
  refine Zdz (fun x : Nat × Nat => match x with | (i, j) => [slv 0 0 n c, Zx y, .func (.func 45) #[] #[], dead, pt 1 0, dead, Iv 0, .bool false, Iv (n : Nat), Iv (i : Nat), Iv (j : Nat), dead, slv 0 0 n c, Iv (n : Nat), Iv (n : Nat)]) (fun x : Nat × Nat => match x with | (i, j) => [rwR Zh l, bxB 36 (Zr y)]) (fun x : Nat × Nat => match x with | (i, j) => (∀ k, k < i → Zbm (l.getD k default) y) ∧ (∀ k, j ≤ k → k < n → ¬ Zbm (l.getD k default) y) ∧ i ≤ j ∧ j ≤ n) (fun x : Nat × Nat => match x with | (i, j) => j - i) (0, n) ⟨fun _ h => absurd h (Nat.not_lt_zero _), fun k h h' => absurd h' (Nat.not_lt.2 h), Nat.zero_le _, Nat.le_refl _⟩ ?_ ?_
  · refine Zau (n := 2) rfl ?_ (by kernel_rfl) (by kernel_rfl)
    repeat (first | exact trivial | refine ⟨.inl rfl, ?_⟩ | refine ⟨.inr ⟨rfl, rfl⟩, ?_⟩ | refine ⟨.inr ⟨congrArg (Value.int .i64) (by first | omega | (dsimp only; omega)), rfl⟩, ?_⟩)
  rintro ⟨i, j⟩ ⟨hA, hB, hC, hD⟩
  dsimp only at *
  refine Zi (Zi (Zm (Zb (Iv (i : Nat)) (Zb (Iv (j : Nat)) ?_))))
  by_cases h1 : (i : Nat) < (j : Nat)
  refine Zn (vx := Iv (i : Nat)) (vy := Iv (j : Nat)) rfl rfl (.bool true) rfl rfl (Zdq (by omega)) ?_
  refine Zd (Ze (Z4 rfl (Z9 (Ze (Zav (Zi (Zm (Zb (Iv (i : Nat)) (Zb (Iv (j : Nat)) ?_)))))))))
  refine Zn (vx := Iv (i : Nat)) (vy := Iv (j : Nat)) rfl rfl (Iv ((i : Nat) + (j : Nat))) rfl rfl (Zbi (by omega) (by omega) (by omega)) ?_
  refine Zw3 (w := Iv ((i : Nat) + (j : Nat))) (v := .int .u64 ((i : Nat) + (j : Nat))) rfl rfl rfl (Z0j rfl rfl (by omega) (by omega)) ?_
  refine Zn (vx := .int .u64 ((i : Nat) + (j : Nat))) (vy := .int .u64 1) rfl rfl (.int .u64 ((((i + j) / 2) : Nat) : Int)) rfl rfl (Z1f (by omega) (by omega)) ?_
  refine Zw3 (w := .int .u64 ((((i + j) / 2) : Nat) : Int)) (v := Iv ((((i + j) / 2) : Nat) : Int)) rfl rfl rfl (Z0i rfl rfl (by omega) (by omega)) ?_
  refine Zc (Iv ((((i + j) / 2) : Nat) : Int)) (Zd (Ze (Zi ?_)))
  refine Zel (by kernel_rfl) ?_
  refine Zb (.func (.func 45) #[] #[]) (Zb (slv 0 0 n c) (Zb (Iv ((((i + j) / 2) : Nat) : Int)) ?_))
  refine Zb0 (b := 0) (o := 0) (j := ((i + j) / 2) * 36) (m := n) (c := c) (sz := 36) (i := ((((i + j) / 2) : Nat) : Int)) (k := .i64) rfl rfl rfl rfl rfl (by omega) (by omega) (by omega) ?_
  refine Zba (p := pt 0 (((i + j) / 2) * 36)) (v := Zx (l.getD ((i + j) / 2) default)) rfl rfl rfl (Zcm (n := 0) (m := 36) Zh rfl rfl rfl rfl (by have := hn; omega) (by omega)) ?_
  refine Zl (p := pt 1 0) (v := Zx y) ?_
  refine Zab (e := []) (nid := 0) (Zm1 (G := G) (l.getD ((i + j) / 2) default) y) (vals := [Zx (l.getD ((i + j) / 2) default), Zx y]) (v := Iv (Zhr (l.getD ((i + j) / 2) default) y)) (H' := [rwR Zh l, bxB 36 (Zr y)]) rfl rfl rfl rfl rfl rfl rfl ⟨⟨(Zgw (by kernel_rfl) rfl), (Zgw (by kernel_rfl) rfl), trivial⟩, trivial, rfl, rfl, rfl⟩ rfl (by kernel_rfl) ?_
  by_cases h2 : (Zhr (l.getD ((i + j) / 2) default) y) < 0
  refine Zn (vx := Iv (Zhr (l.getD ((i + j) / 2) default) y)) (vy := Iv 0) rfl rfl (.bool true) rfl rfl (Zdq (by omega)) ?_
  refine Zb6 (Zay [[], [], [], [1, 2], [1, 2, 3], [], [0, 1, 2, 3, 4, 5], [0, 1, 2, 3, 4, 5, 6]] (by kernel_rfl) (by kernel_rfl)) ?_
  refine Ze (Z4 rfl (Zm (Zb (Iv ((((i + j) / 2) : Nat) : Int)) ?_)))
  refine Zn (vx := Iv ((((i + j) / 2) : Nat) : Int)) (vy := Iv 1) rfl rfl (Iv (((((i + j) / 2) : Nat) : Int) + 1)) rfl rfl (Zbi (by omega) (by omega) (by omega)) ?_
  refine Zc (Iv (((((i + j) / 2) : Nat) : Int) + 1)) (Zd (Z7 ?_))
  refine Zad ⟨((((i + j) / 2) + 1), j), ⟨fun k hk => Zky hR (show k ≤ (i + j) / 2 by omega) (by omega) (Zhs.1 (by omega)), hB, by omega, by omega⟩, by first | omega | (dsimp only; omega), ?_⟩
  refine Zau (n := 2) rfl ?_ (by kernel_rfl) (by kernel_rfl)
  repeat (first | exact trivial | refine ⟨.inl rfl, ?_⟩ | refine ⟨.inr ⟨rfl, rfl⟩, ?_⟩ | refine ⟨.inr ⟨congrArg (Value.int .i64) (by first | omega | (dsimp only; omega)), rfl⟩, ?_⟩)
  refine Zn (vx := Iv (Zhr (l.getD ((i + j) / 2) default) y)) (vy := Iv 0) rfl rfl (.bool false) rfl rfl (Zdp (by omega)) ?_
  refine Zb6 (Zay [[], [], [], [1, 2], [1, 2, 3], [], [0, 1, 2, 3, 4, 5], [0, 1, 2, 3, 4, 5, 6]] (by kernel_rfl) (by kernel_rfl)) ?_
  refine Ze (Zz rfl (Zm (Zb (Iv ((((i + j) / 2) : Nat) : Int)) (Zc (Iv ((((i + j) / 2) : Nat) : Int)) (Zd (Z7 ?_))))))
  refine Zad ⟨(i, ((i + j) / 2)), ⟨hA, fun k (hk : (i + j) / 2 ≤ k) hkn => Zs0 (h := (i + j) / 2) hR hk (by omega) (fun q => by have := Zhs.2 q; omega), by omega, by omega⟩, by first | omega | (dsimp only; omega), ?_⟩
  refine Zau (n := 2) rfl ?_ (by kernel_rfl) (by kernel_rfl)
  repeat (first | exact trivial | refine ⟨.inl rfl, ?_⟩ | refine ⟨.inr ⟨rfl, rfl⟩, ?_⟩ | refine ⟨.inr ⟨congrArg (Value.int .i64) (by first | omega | (dsimp only; omega)), rfl⟩, ?_⟩)
  refine Zn (vx := Iv (i : Nat)) (vy := Iv (j : Nat)) rfl rfl (.bool false) rfl rfl (Zdp (by omega)) ?_
  refine Zd (Ze (Zz rfl (Zez (Zd3 (Zc3 (Zdt rfl (Ze (Zi ?_))))))))
  refine Zel (by kernel_rfl) ?_
  refine Zb (Iv (i : Nat)) (Zb (Iv (i : Nat)) (Zb (Iv (n : Nat)) ?_))
  by_cases h3 : (i : Nat) < (n : Nat)
  refine Zn (vx := Iv (i : Nat)) (vy := Iv (n : Nat)) rfl rfl (.bool true) rfl rfl (Zdq (by omega)) ?_
  refine Zb (.bool true) (Zb (.func (.func 45) #[] #[]) (Zb (slv 0 0 n c) (Zb (Iv (i : Nat)) ?_)))
  refine Zb0 (b := 0) (o := 0) (j := i * 36) (m := n) (c := c) (sz := 36) (i := (i : Nat)) (k := .i64) rfl rfl rfl rfl rfl (by omega) (by omega) (by omega) ?_
  refine Zba (p := pt 0 (i * 36)) (v := Zx (l.getD i default)) rfl rfl rfl (Zcm (n := 0) (m := 36) Zh rfl rfl rfl rfl (by have := hn; omega) (by omega)) ?_
  refine Zl (p := pt 1 0) (v := Zx y) ?_
  refine Zab (e := []) (nid := 0) (Zm1 (G := G) (l.getD i default) y) (vals := [Zx (l.getD i default), Zx y]) (v := Iv (Zhr (l.getD i default) y)) (H' := [rwR Zh l, bxB 36 (Zr y)]) rfl rfl rfl rfl rfl rfl rfl ⟨⟨(Zgw (by kernel_rfl) rfl), (Zgw (by kernel_rfl) rfl), trivial⟩, trivial, rfl, rfl, rfl⟩ rfl (by kernel_rfl) ?_
  by_cases h4 : (Zhr (l.getD i default) y) = 0
  refine Zn (vx := Iv (Zhr (l.getD i default) y)) (vy := Iv 0) rfl rfl (.bool true) rfl rfl (Zaj (by omega)) ?_
  refine Zg (.bool true) (Zc (Iv (i : Nat)) (Zc (.bool true) ?_))
  refine Zb6 (Zay [[], [], [], [1, 2], [1, 2, 3], [1, 2, 3, 4], [1, 2, 3, 4], [1, 2, 3, 4], [1, 2, 3, 4, 6, 7], [1, 2, 3, 4, 6, 7, 8], [1, 2, 3, 4], [1, 2, 3, 4, 5, 6, 7, 8, 9, 10], [1, 2, 3, 4, 5, 6, 7, 8, 9, 10, 11], [1, 2, 3, 4, 5, 6, 7, 8, 9, 10, 11, 12], [0, 1, 2, 3, 4, 5, 6, 7, 8, 9, 10, 11], [0, 1, 2, 3, 4, 5, 6, 7, 8, 9, 10, 11, 12, 13, 14]] (by kernel_rfl) (by kernel_rfl)) ?_
  refine Ze (Zs (Zq ?_))
  have hp : Zbq l y = i := Zmf hA (by omega) (fun hlt => hB i (by omega) (by omega))
  rw [Zy1 hp (by omega) (by omega), hp]
  exact Zk (v := .tuple #[Iv (i : Nat), .bool true]) rfl rfl rfl (by kernel_rfl) ⟨rfl, rfl, trivial⟩
  refine Zn (vx := Iv (Zhr (l.getD i default) y)) (vy := Iv 0) rfl rfl (.bool false) rfl rfl (Zaq (by omega)) ?_
  refine Zg (.bool false) (Zc (Iv (i : Nat)) (Zc (.bool false) ?_))
  refine Zb6 (Zay [[], [], [], [1, 2], [1, 2, 3], [1, 2, 3, 4], [1, 2, 3, 4], [1, 2, 3, 4], [1, 2, 3, 4, 6, 7], [1, 2, 3, 4, 6, 7, 8], [1, 2, 3, 4], [1, 2, 3, 4, 5, 6, 7, 8, 9, 10], [1, 2, 3, 4, 5, 6, 7, 8, 9, 10, 11], [1, 2, 3, 4, 5, 6, 7, 8, 9, 10, 11, 12], [0, 1, 2, 3, 4, 5, 6, 7, 8, 9, 10, 11], [0, 1, 2, 3, 4, 5, 6, 7, 8, 9, 10, 11, 12, 13, 14]] (by kernel_rfl) (by kernel_rfl)) ?_
  refine Ze (Zs (Zq ?_))
  have hp : Zbq l y = i := Zmf hA (by omega) (fun hlt => hB i (by omega) (by omega))
  rw [Zv4 hp (fun hlt => by omega), hp]
  exact Zk (v := .tuple #[Iv (i : Nat), .bool false]) rfl rfl rfl (by kernel_rfl) ⟨rfl, rfl, trivial⟩
  refine Zn (vx := Iv (i : Nat)) (vy := Iv (n : Nat)) rfl rfl (.bool false) rfl rfl (Zdp (by omega)) ?_
  refine Zb (.bool false) (Za (Za (Za (Za (Za (Za (Za (Za (Zg (.bool false) (Zc (Iv (i : Nat)) (Zc (.bool false) ?_)))))))))))
  refine Zb6 (Zay [[], [], [], [1, 2], [1, 2, 3], [1, 2, 3, 4], [1, 2, 3, 4], [1, 2, 3, 4], [1, 2, 3, 4, 6, 7], [1, 2, 3, 4, 6, 7, 8], [1, 2, 3, 4], [1, 2, 3, 4, 5, 6, 7, 8, 9, 10], [1, 2, 3, 4, 5, 6, 7, 8, 9, 10, 11], [1, 2, 3, 4, 5, 6, 7, 8, 9, 10, 11, 12], [0, 1, 2, 3, 4, 5, 6, 7, 8, 9, 10, 11], [0, 1, 2, 3, 4, 5, 6, 7, 8, 9, 10, 11, 12, 13, 14]] (by kernel_rfl) (by kernel_rfl)) ?_
  refine Ze (Zs (Zq ?_))
  have hp : Zbq l y = i := Zmf hA (by omega) (fun hlt => hB i (by omega) (by omega))
  rw [Zv4 hp (fun hlt => by omega), hp]
  exact Zk (v := .tuple #[Iv (i : Nat), .bool false]) rfl rfl rfl (by kernel_rfl) ⟨rfl, rfl, trivial⟩
theorem Zn1 (l : List Claim) (n c : Nat) (hn : l.length = n) (hc : n ≤ c) (hb : n ≤ 100000) (x : Claim) : Zat Try.prog G 54 [slv 0 0 n c, Zx x] [rwR Zh l] (.tuple #[slv 1 0 (Zae l x).1.length (Zae l x).1.length, Iv (Zae l x).2]) [rwR Zh l, rwB Zh (Zae l x).1] := by
  refine Zcg (fn := Try.f54) (nt := 42) rfl rfl rfl rfl ?_
  refine Za8 3 (H' := [rwR Zh l, hole, hole, hole]) rfl ?_
  refine Zi (Zm (Zbn (v := Zx x) (b := bxB 36 (Zr x)) (nid := 1) (H' := [rwR Zh l, bxB 36 (Zr x), hole, hole]) (Zc (.slice none 0 0) (Zc (Iv 0) (Zd (Ze (Zi (Zi (Zm (Zb (slv 0 0 n c) ?_))))))))))
  refine Zab (e := [some (0, 0)]) (nid := 0) (Zk1 (G := G) l n c hn (by omega) (by omega)) (vals := [slv 0 0 n c]) (v := Iv (Zec l)) (H' := [rwR Zh l, bxB 36 (Zr x), hole, hole]) rfl rfl rfl rfl rfl rfl rfl ⟨⟨⟨rfl, rfl, rfl, by first | omega | exact Nat.le_refl _, by first | omega | exact Nat.le_refl _⟩, trivial⟩, ⟨(Zaf rfl), trivial⟩, rfl, rfl, rfl⟩ rfl (by kernel_rfl) ?_
  by_cases h1 : (Zec l) ≠ 0
  refine Zn (vx := Iv (Zec l)) (vy := Iv 0) rfl rfl (.bool true) rfl rfl (Zd5 (by omega)) ?_
  refine Zb (.bool true) (Za (Za (Za (Zg (.bool true) (Zd (Ze (Z4 rfl (Zi (Zm (Zc (.slice none 0 0) (Zc (Iv 110) (Zd (Ze ?_)))))))))))))
  refine Zbh (Zbz.nilTmp (i := 4) (b := 2) true 36 rfl (by decide) rfl) ?_
  refine Zs (Zv (Zq ?_))
  rw [show Zae l x = ([], 110) from Zuc (fun q => by have := q.1; have := q.2; omega)]
  exact Zar [0, 2] (v := .tuple #[slv 2 0 0 0, Iv 110]) rfl (by kernel_rfl) rfl rfl (by decide) (by simp [Zbr, rwB, rwR, Zh]) ⟨⟨rfl, rfl, rfl, by first | omega | exact Nat.le_refl _ | exact Nat.zero_le _ | (dsimp only; omega), by first | omega | exact Nat.le_refl _ | exact Nat.zero_le _ | (dsimp only; omega)⟩, rfl, trivial⟩
  refine Zn (vx := Iv (Zec l)) (vy := Iv 0) rfl rfl (.bool false) rfl rfl (Zd4 (by omega)) ?_
  refine Zb (.bool false) (Zl (p := pt 1 0) (v := Zx x) ?_)
  refine Zw (Zhd (G := G) x) (vals := [Zx x]) (res' := Iv (Ze6 x)) rfl rfl rfl rfl rfl rfl ?_
  by_cases h2 : (Ze6 x) ≠ 0
  refine Zn (vx := Iv (Ze6 x)) (vy := Iv 0) rfl rfl (.bool true) rfl rfl (Zd5 (by omega)) ?_
  refine Zg (.bool true) (Zd (Ze (Z4 rfl (Zi (Zm (Zc (.slice none 0 0) (Zc (Iv 110) (Zd (Ze ?_)))))))))
  refine Zbh (Zbz.nilTmp (i := 4) (b := 2) true 36 rfl (by decide) rfl) ?_
  refine Zs (Zv (Zq ?_))
  rw [show Zae l x = ([], 110) from Zuc (fun q => by have := q.1; have := q.2; omega)]
  exact Zar [0, 2] (v := .tuple #[slv 2 0 0 0, Iv 110]) rfl (by kernel_rfl) rfl rfl (by decide) (by simp [Zbr, rwB, rwR, Zh]) ⟨⟨rfl, rfl, rfl, by first | omega | exact Nat.le_refl _ | exact Nat.zero_le _ | (dsimp only; omega), by first | omega | exact Nat.le_refl _ | exact Nat.zero_le _ | (dsimp only; omega)⟩, rfl, trivial⟩
  refine Zn (vx := Iv (Ze6 x)) (vy := Iv 0) rfl rfl (.bool false) rfl rfl (Zd4 (by omega)) ?_
  refine Zg (.bool false) (Zd (Ze (Zz rfl (Z9 (Ze (Zi (Zm (Zb (slv 0 0 n c) (Zl (p := pt 1 0) (v := Zx x) ?_)))))))))
  rcases Bool.eq_false_or_eq_true (Zdm l x) with h3 | h3
  have hpl9 := Zpv l x
  have hfl9 := Zzo (l := l) (x := x) h3
  refine Zab (e := [some (0, 0)]) (nid := 0) (Zmj (G := G) l n c hn (by omega) (by omega) x (Zf8 (by omega))) (vals := [slv 0 0 n c, Zx x, .func (.func 45) #[] #[]]) (v := .tuple #[Iv (((Zbq l x) : Nat) : Int), .bool (Zdm l x)]) (H' := [rwR Zh l, bxB 36 (Zr x), hole, hole]) rfl rfl rfl rfl rfl rfl rfl ⟨⟨⟨rfl, rfl, rfl, by first | omega | exact Nat.le_refl _, by first | omega | exact Nat.le_refl _⟩, (Zgw (by kernel_rfl) rfl), ⟨by simp [Zgo], by kernel_rfl⟩, trivial⟩, ⟨(Zaf rfl), trivial⟩, rfl, rfl, rfl⟩ (by kernel_rfl) (by kernel_rfl) ?_
  refine Zb (.tuple #[Iv (((Zbq l x) : Nat) : Int), .bool (Zdm l x)]) (Za2 (vs := #[Iv (((Zbq l x) : Nat) : Int), .bool (Zdm l x)]) (v := Iv (((Zbq l x) : Nat) : Int)) (Za2 (vs := #[Iv (((Zbq l x) : Nat) : Int), .bool (Zdm l x)]) (v := .bool (Zdm l x)) (Zc (Iv (((Zbq l x) : Nat) : Int)) (Zc (.bool (Zdm l x)) (Zd (Ze (Zi (Zav (Zi ?_)))))))))
  refine Zek (by kernel_rfl) ?_
  refine Zb (.bool (Zdm l x)) (Zb (.bool (Zdm l x)) ?_)
  refine Zsp (by exact congrArg (fun b => some (b == true)) h3) rfl (slv 0 0 n c) rfl ?_
  refine Zsp (by exact congrArg (fun b => some (b == true)) h3) rfl (Iv (((Zbq l x) : Nat) : Int)) rfl ?_
  refine Zb0 (b := 0) (o := 0) (j := (Zbq l x) * 36) (m := n) (c := c) (sz := 36) (i := (((Zbq l x) : Nat) : Int)) (k := .i64) (by exact congrArg (fun b => some (b == true)) h3) rfl rfl rfl rfl (by omega) (by omega) (by omega) ?_
  refine Zba (p := pt 0 ((Zbq l x) * 36)) (v := Zx (l.getD (Zbq l x) default)) (by exact congrArg (fun b => some (b == true)) h3) rfl rfl (Zcm (n := 0) (m := 36) Zh rfl rfl rfl rfl (by have := hn; omega) (by omega)) ?_
  refine Zba (p := pt 1 0) (v := Zx x) (by exact congrArg (fun b => some (b == true)) h3) rfl rfl (by kernel_rfl) ?_
  rcases Bool.eq_false_or_eq_true (Zu (l.getD (Zbq l x) default) x) with h4 | h4
  refine Zn (vx := Zx (l.getD (Zbq l x) default)) (vy := Zx x) (by exact congrArg (fun b => some (b == true)) h3) rfl (.bool false) rfl rfl (Eq.trans (Zgt (l.getD (Zbq l x) default) x) (by rw [h4] <;> rfl)) ?_
  refine Zcw rfl rfl (.bool false) (by show some (if _ then _ else _) = _; rw [h3] <;> rfl) ?_
  refine Zc (.bool false) ?_
  refine Zbv (Za4 [[], [0], [0, 1], [0, 1], [0, 1, 2, 3], [0, 1, 2, 3, 4], [0, 1], [0, 1, 2, 3, 4, 5, 6], [0, 1, 2, 3, 4, 5, 6, 7], [0, 1, 2, 3, 4, 5, 6, 7, 8]] (by kernel_rfl) (by kernel_rfl)) ?_
  refine Ze (Zz rfl (Zi (Zm (Zb (.bool (Zdm l x)) (Zc (.bool (Zdm l x)) (Zd (Ze (Z4 (congrArg Value.bool h3) (Zi (Zm (Zb (slv 0 0 n c) ?_)))))))))))
  refine Zab (e := [some (0, 0)]) (nid := 2) (Zi3 (G := G) l n c hn (by omega) (by omega)) (vals := [slv 0 0 n c]) (v := slv 2 0 n n) (H' := [rwR Zh l, bxB 36 (Zr x), rwB Zh l, hole]) rfl rfl rfl rfl rfl rfl rfl ⟨⟨⟨rfl, rfl, rfl, by first | omega | exact Nat.le_refl _, by first | omega | exact Nat.le_refl _⟩, trivial⟩, ⟨(Zaf rfl), trivial⟩, rfl, rfl, rfl⟩ (by kernel_rfl) (by kernel_rfl) ?_
  refine Zc (slv 2 0 n n) (Zc (Iv 0) (Zd (Ze (Zs (Zy (Zv (Zq ?_)))))))
  rw [show Zae l x = (l, 0) from Zw5 (by omega) (by omega) (by assumption) (by assumption), show ((l, 0) : List Claim × Int).1.length = n from hn]
  exact Zar [0, 2] (v := .tuple #[slv 2 0 n n, Iv 0]) rfl (by kernel_rfl) rfl rfl (by decide) (by simp [Zbr, rwB, rwR, Zh]) ⟨⟨rfl, rfl, rfl, by first | omega | exact Nat.le_refl _ | exact Nat.zero_le _ | (dsimp only; omega), by first | omega | exact Nat.le_refl _ | exact Nat.zero_le _ | (dsimp only; omega)⟩, rfl, trivial⟩
  refine Zn (vx := Zx (l.getD (Zbq l x) default)) (vy := Zx x) (by exact congrArg (fun b => some (b == true)) h3) rfl (.bool true) rfl rfl (Eq.trans (Zgt (l.getD (Zbq l x) default) x) (by rw [h4] <;> rfl)) ?_
  refine Zcw rfl rfl (.bool true) (by show some (if _ then _ else _) = _; rw [h3] <;> rfl) ?_
  refine Zc (.bool true) ?_
  refine Zbv (Za4 [[], [0], [0, 1], [0, 1], [0, 1, 2, 3], [0, 1, 2, 3, 4], [0, 1], [0, 1, 2, 3, 4, 5, 6], [0, 1, 2, 3, 4, 5, 6, 7], [0, 1, 2, 3, 4, 5, 6, 7, 8]] (by kernel_rfl) (by kernel_rfl)) ?_
  refine Ze (Z4 rfl (Zi (Zm (Zc (.slice none 0 0) (Zc (Iv 111) (Zd (Ze ?_)))))))
  refine Zbh (Zbz.nilTmp (i := 4) (b := 2) true 36 rfl (by decide) rfl) ?_
  refine Zs (Zy (Zv (Zq ?_)))
  rw [show Zae l x = ([], 111) from Zy8 (by omega) (by omega) (by assumption) (by assumption)]
  exact Zar [0, 2] (v := .tuple #[slv 2 0 0 0, Iv 111]) rfl (by kernel_rfl) rfl rfl (by decide) (by simp [Zbr, rwB, rwR, Zh]) ⟨⟨rfl, rfl, rfl, by first | omega | exact Nat.le_refl _ | exact Nat.zero_le _ | (dsimp only; omega), by first | omega | exact Nat.le_refl _ | exact Nat.zero_le _ | (dsimp only; omega)⟩, rfl, trivial⟩
  have hpl10 := Zpv l x
  refine Zab (e := [some (0, 0)]) (nid := 0) (Zmj (G := G) l n c hn (by omega) (by omega) x (Zf8 (by omega))) (vals := [slv 0 0 n c, Zx x, .func (.func 45) #[] #[]]) (v := .tuple #[Iv (((Zbq l x) : Nat) : Int), .bool (Zdm l x)]) (H' := [rwR Zh l, bxB 36 (Zr x), hole, hole]) rfl rfl rfl rfl rfl rfl rfl ⟨⟨⟨rfl, rfl, rfl, by first | omega | exact Nat.le_refl _, by first | omega | exact Nat.le_refl _⟩, (Zgw (by kernel_rfl) rfl), ⟨by simp [Zgo], by kernel_rfl⟩, trivial⟩, ⟨(Zaf rfl), trivial⟩, rfl, rfl, rfl⟩ (by kernel_rfl) (by kernel_rfl) ?_
  refine Zb (.tuple #[Iv (((Zbq l x) : Nat) : Int), .bool (Zdm l x)]) (Za2 (vs := #[Iv (((Zbq l x) : Nat) : Int), .bool (Zdm l x)]) (v := Iv (((Zbq l x) : Nat) : Int)) (Za2 (vs := #[Iv (((Zbq l x) : Nat) : Int), .bool (Zdm l x)]) (v := .bool (Zdm l x)) (Zc (Iv (((Zbq l x) : Nat) : Int)) (Zc (.bool (Zdm l x)) (Zd (Ze (Zi (Zav (Zi ?_)))))))))
  refine Zek (by kernel_rfl) ?_
  refine Zb (.bool (Zdm l x)) (Zb (.bool (Zdm l x)) ?_)
  refine Zb1 (by exact congrArg (fun b => some (b == true)) h3) rfl ?_
  refine Zb1 (by exact congrArg (fun b => some (b == true)) h3) rfl ?_
  refine Zb1 (by exact congrArg (fun b => some (b == true)) h3) rfl ?_
  refine Zb1 (by exact congrArg (fun b => some (b == true)) h3) rfl ?_
  refine Zb1 (by exact congrArg (fun b => some (b == true)) h3) rfl ?_
  refine Zb1 (by exact congrArg (fun b => some (b == true)) h3) rfl ?_
  refine Zcw rfl rfl (.bool false) (by show some (if _ then _ else _) = _; rw [h3] <;> rfl) ?_
  refine Zc (.bool false) ?_
  refine Zbv (Za4 [[], [0], [0, 1], [0, 1], [0, 1, 2, 3], [0, 1, 2, 3, 4], [0, 1], [0, 1, 2, 3, 4, 5, 6], [0, 1, 2, 3, 4, 5, 6, 7], [0, 1, 2, 3, 4, 5, 6, 7, 8]] (by kernel_rfl) (by kernel_rfl)) ?_
  refine Ze (Zz rfl (Zi (Zm (Zb (.bool (Zdm l x)) (Zc (.bool (Zdm l x)) (Zd (Ze (Zz (congrArg Value.bool h3) (Z9 (Z7 (Ze (Zi ?_))))))))))))
  refine Zel (by kernel_rfl) ?_
  refine Zb (slv 0 0 n c) ?_
  refine Zab (e := [some (0, 0)]) (nid := 2) (Zi3 (G := G) l n c hn (by omega) (by omega)) (vals := [slv 0 0 n c]) (v := slv 2 0 n n) (H' := [rwR Zh l, bxB 36 (Zr x), rwB Zh l, hole]) rfl rfl rfl rfl rfl rfl rfl ⟨⟨⟨rfl, rfl, rfl, by first | omega | exact Nat.le_refl _, by first | omega | exact Nat.le_refl _⟩, trivial⟩, ⟨(Zaf rfl), trivial⟩, rfl, rfl, rfl⟩ (by kernel_rfl) (by kernel_rfl) ?_
  refine Zb (Iv (((Zbq l x) : Nat) : Int)) (Zl (p := pt 1 0) (v := Zx x) ?_)
  refine Zgl (vs := [(0, Zx x)]) (v := slv 3 0 1 1) (blk := rwB Zh [x]) (nid := 3) (H' := [rwR Zh l, bxB 36 (Zr x), rwB Zh l, rwB Zh [x]]) rfl rfl rfl (by kernel_rfl) (by kernel_rfl) ?_
  have hin11 := Zt1 (x := x) n (Zbq l x) hn (by omega)
  refine Zsn (e := [some (2, 0), some (3, 0)]) (nid := 0) (Zuk (G := G) l x n (Zbq l x) hn (by omega) (by omega)) (vals := [slv 2 0 n n, Iv (((Zbq l x) : Nat) : Int), slv 3 0 1 1]) (v := slv 2 0 (n + 1) (n + 1)) (H' := [rwR Zh l, bxB 36 (Zr x), rwB Zh (l.take (Zbq l x) ++ x :: l.drop (Zbq l x)), rwB Zh [x]]) rfl rfl rfl rfl rfl rfl ⟨⟨⟨rfl, rfl, rfl, by omega, by omega⟩, rfl, ⟨rfl, rfl, rfl, by omega, by omega⟩, trivial⟩, ⟨(Zil rfl rfl rfl rfl), (Zil rfl rfl rfl rfl), trivial⟩, rfl, rfl, rfl, Nat.le_refl _⟩ rfl rfl (by kernel_rfl) ?_
  refine Zc (slv 2 0 (n + 1) (n + 1)) (Zc (Iv 0) ?_)
  refine Zb6 (Zay [[], [0], [], [], [3], [0, 1, 2, 3, 4], [0, 1, 2, 3, 4, 5], [0, 1, 2, 3, 4, 5, 6]] (by kernel_rfl) (by kernel_rfl)) ?_
  refine Ze (Zs (Zq ?_))
  rw [show Zae l x = (l.take (Zbq l x) ++ x :: l.drop (Zbq l x), 0) from Zw6 (by omega) (by omega) (by assumption), show ((l.take (Zbq l x) ++ x :: l.drop (Zbq l x), 0) : List Claim × Int).1.length = n + 1 from Zt1 n (Zbq l x) hn (by omega)]
  exact Zar [0, 2] (v := .tuple #[slv 2 0 (n + 1) (n + 1), Iv 0]) rfl (by kernel_rfl) rfl rfl (by decide) (by simp [Zbr, rwB, rwR, Zh]) ⟨⟨rfl, rfl, rfl, by first | omega | exact Nat.le_refl _ | exact Nat.zero_le _ | (dsimp only; omega), by first | omega | exact Nat.le_refl _ | exact Nat.zero_le _ | (dsimp only; omega)⟩, rfl, trivial⟩
end Go.Flat
