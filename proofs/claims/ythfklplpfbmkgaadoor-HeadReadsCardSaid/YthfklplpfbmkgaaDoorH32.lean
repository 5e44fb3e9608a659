/- Walks and plain laws: what each theorem says, within the bounds that it names. -/
import Derived.Test.YthfklplpfbmkgaaDoorH31
set_option linter.unusedVariables false
set_option linter.unusedSimpArgs false
set_option maxRecDepth 20000
namespace Go.Flat
open Go.Proofs
variable {G : Glob}
def valN : Bs → Nat → Nat
  | [], v => v
  | x :: l, v => valN l (256 * v + x.toNat)
theorem valN_ge : ∀ (l : Bs) (v : Nat), v ≤ valN l v
  | [], v => Nat.le_refl _
  | x :: l, v => by rw [valN]; have := valN_ge l (256 * v + x.toNat); omega
theorem valL_small : ∀ (l : Bs) (v : Nat), valN l v ≤ 4611686018427387903 → valL l v = ((valN l v : Int), 0)
  | [], v, _ => rfl
  | x :: l, v, h => by
    rw [valN] at h
    have := valN_ge l (256 * v + x.toNat)
    rw [valL, if_neg (by omega), show v * 256 + x.toNat = 256 * v + x.toNat by omega, valL_small l _ h]; rfl
theorem valL_big : ∀ (l : Bs) (v : Nat), v ≤ 4611686018427387903 → 4611686018427387903 < valN l v → valL l v = (0, 11)
  | [], v, h, h2 => absurd h2 (by rw [valN]; omega)
  | x :: l, v, h, h2 => by
    rw [valN] at h2
    have hx := x.isLt
    rw [valL]
    split
    · rfl
    · rw [show v * 256 + x.toNat = 256 * v + x.toNat by omega]
      exact valL_big l _ (by omega) h2
theorem valN_hi : ∀ (l : Bs) (v : Nat), valN l v < (v + 1) * 256 ^ l.length
  | [], v => by simp [valN]
  | x :: l, v => by
    have hx := x.isLt
    have h := valN_hi l (256 * v + x.toNat)
    rw [valN, List.length_cons, Nat.pow_succ]
    refine Nat.lt_of_lt_of_le h ?_
    rw [Nat.mul_comm (256 ^ l.length) 256, ← Nat.mul_assoc]
    exact Nat.mul_le_mul_right _ (by omega)
theorem valN_lo : ∀ (l : Bs) (v : Nat), v * 256 ^ l.length ≤ valN l v
  | [], v => by simp [valN]
  | x :: l, v => by
    have h := valN_lo l (256 * v + x.toNat)
    rw [valN, List.length_cons, Nat.pow_succ]
    refine Nat.le_trans ?_ h
    rw [Nat.mul_comm (256 ^ l.length) 256, ← Nat.mul_assoc]
    exact Nat.mul_le_mul_right _ (by omega)
theorem valS_good {s : ByteArray} (h1 : s.size ≤ 8) (h2 : 1 ≤ s.size → ((bl s).getD 0 0 == 0#8) = false) (h3 : s.size = 8 → ((bl s).getD 0 0).toNat < 64) : valS s = ((valN (bl s) 0 : Int), 0) ∧ valN (bl s) 0 ≤ 4611686018427387903 := by
  have hN : valN (bl s) 0 ≤ 4611686018427387903 := by
    rw [← bl_len] at h1 h2 h3
    generalize bl s = l at *
    match l, h1, h2, h3 with
    | [], _, _, _ => decide
    | x :: r, h1, h2, h3 =>
      have hx := x.isLt
      have hh := valN_hi r (256 * 0 + x.toNat)
      rw [valN]
      simp only [List.length_cons] at h1 h3
      rcases Nat.lt_or_ge r.length 7 with q | q
      · have hp : 256 ^ r.length ≤ 256 ^ 6 := Nat.pow_le_pow_right (by decide) (by omega)
        have : (256 * 0 + x.toNat + 1) * 256 ^ r.length ≤ 256 * 256 ^ 6 := Nat.mul_le_mul (by omega) hp
        have e : 256 * 256 ^ 6 = 72057594037927936 := by decide
        omega
      · have e7 : r.length = 7 := by omega
        have hx2 : x.toNat < 64 := h3 (by omega)
        have : (256 * 0 + x.toNat + 1) * 256 ^ r.length ≤ 64 * 256 ^ 7 := Nat.mul_le_mul (by omega) (by rw [e7]; exact Nat.le_refl _)
        have e : 64 * 256 ^ 7 = 4611686018427387904 := by decide
        omega
  refine ⟨?_, hN⟩
  exact valS_ok h1 h2 (valL_small _ _ hN)
theorem valS_top {s : ByteArray} (h : s.size = 8) (h2 : 64 ≤ ((bl s).getD 0 0).toNat) : valS s = (0, 11) := by
  unfold valS
  split
  · rfl
  · rw [← bl_len] at h
    generalize bl s = l at *
    match l, h, h2 with
    | x :: r, h, h2 =>
      have hl := valN_lo r (256 * 0 + x.toNat)
      have e7 : r.length = 7 := by simpa using h
      have hx : 64 ≤ x.toNat := h2
      have : 64 * 256 ^ 7 ≤ (256 * 0 + x.toNat) * 256 ^ r.length := Nat.mul_le_mul (by omega) (by rw [e7]; exact Nat.le_refl _)
      have e : 64 * 256 ^ 7 = 4611686018427387904 := by decide
      exact valL_big _ _ (by omega) (by rw [valN]; omega)
theorem valN_step {l : Bs} {j v R : Nat} (hR : valN (l.drop j) v = R) (hj : j < l.length) : valN (l.drop (j + 1)) (256 * v + (l.getD j 0).toNat) = R ∧ 256 * v + (l.getD j 0).toNat ≤ R := by
  rw [List.drop_eq_getElem_cons hj, valN] at hR
  have e : l.getD j 0 = l[j] := by rw [List.getD_eq_getElem?_getD, List.getElem?_eq_getElem hj]; rfl
  rw [e]
  exact ⟨hR, by rw [← hR]; exact valN_ge _ _⟩
def vR (s : ByteArray) : Int := if (valS s).2 ≠ 0 then -1 else (valS s).1
def cpTo (s : ByteArray) (i : Nat) : D := fun k => if k < i then (bl s).getD k 0 else 0
theorem cpTo_step {s : ByteArray} {i : Nat} : updN (cpTo s i) i ((bl s).getD i 0) = cpTo s (i + 1) := by
  funext k
  unfold updN cpTo
  by_cases h : k = i
  · subst h; simp
  · rcases Nat.lt_or_ge k i with q | q
    · simp [h, q, Nat.lt_succ_of_lt q]
    · simp [h]; rw [if_neg (by omega), if_neg (by omega)]
theorem cpTo_zero (s : ByteArray) : cpTo s 0 = dz := by funext k; unfold cpTo; rw [if_neg (by omega)]; rfl
def digR (s : ByteArray) : D × Bool := if s.size = 32 then (cpD s, true) else (dz, false)
theorem rValue_ok (s : ByteArray) : CallL Tryd.prog G 58 [.string s] [] (.tuple #[.int .i64 (valS s).1, .int .i64 (valS s).2]) [] := by
  refine walk (fn := Tryd.f58) (nt := 43) rfl rfl rfl rfl ?_
  refine c_seq (c_reg ?_)
  refine r_assign (v := .int .i64 0) rfl rfl rfl ?_
  refine r_assign (v := .int .i64 0) rfl rfl rfl ?_
  refine r_doneN (x_then (c_seq (c_seq (c_reg ?_))))
  refine r_move (v := .string s) rfl rfl rfl ?_
  refine r_len (p := .string s) (v := .int .i64 (s.size : Nat)) rfl rfl rfl rfl ?_
  by_cases h1 : 8 < (s.size : Nat)
  refine r_bin (v := .bool true) (vx := .int .i64 (s.size : Nat)) (vy := .int .i64 8) rfl rfl rfl rfl (gtr_t (by omega)) ?_
  refine r_move (v := .bool true) rfl rfl rfl ?_
  refine r_skip rfl rfl (r_skip rfl rfl (r_skip rfl rfl (r_skip rfl rfl (r_skip rfl rfl (r_skip rfl rfl (r_skip rfl rfl (r_skip rfl rfl ?_)))))))
  refine r_pick (v := .bool true) rfl rfl rfl ?_
  refine r_move (v := .bool true) rfl rfl rfl ?_
  refine r_skip rfl rfl (r_skip rfl rfl (r_skip rfl rfl (r_skip rfl rfl (r_skip rfl rfl (r_skip rfl rfl (r_skip rfl rfl (r_skip rfl rfl ?_)))))))
  refine r_pick (v := .bool true) rfl rfl rfl ?_
  refine r_doneN (x_then (c_true rfl (c_seq (c_reg ?_))))
  refine r_assign (v := .int .i64 0) rfl rfl rfl ?_
  refine r_assign (v := .int .i64 11) rfl rfl rfl ?_
  refine r_doneN (x_then (c_ret (x_thenR (x_end ?_))))
  rw [show valS s = (0, 11) from by first | (exact valS_top (by omega) (by omega)) | (exact valS_bad (.inl (by omega))) | (exact valS_bad (.inr ⟨by omega, by first | assumption | simpa using ‹_›⟩))]
  exact end_same (v := .tuple #[.int .i64 0, .int .i64 11]) rfl rfl rfl (by kernel_rfl) ⟨rfl, rfl, trivial⟩
  refine r_bin (v := .bool false) (vx := .int .i64 (s.size : Nat)) (vy := .int .i64 8) rfl rfl rfl rfl (gtr_f (by omega)) ?_
  refine r_move (v := .bool false) rfl rfl rfl ?_
  refine r_move (v := .string s) rfl rfl rfl ?_
  refine r_len (p := .string s) (v := .int .i64 (s.size : Nat)) rfl rfl rfl rfl ?_
  by_cases h2 : 0 < (s.size : Nat)
  refine r_bin (v := .bool true) (vx := .int .i64 (s.size : Nat)) (vy := .int .i64 0) rfl rfl rfl rfl (gtr_t (by omega)) ?_
  refine r_move (v := .bool true) rfl rfl rfl ?_
  refine r_move (v := .string s) rfl rfl rfl ?_
  refine r_strIdx (p := .string s) (i := .int .i64 0) (v := w8 ((bl s).getD 0 0)) rfl rfl rfl rfl (strIdx_bl rfl (by omega) (by omega)) ?_
  rcases Bool.eq_false_or_eq_true (((bl s).getD 0 0) == 0#8) with h3 | h3
  refine r_bin (v := .bool true) (vx := w8 ((bl s).getD 0 0)) (vy := w8 (0#8)) rfl rfl rfl rfl (Eq.trans eqlW (by rw [h3] <;> rfl)) ?_
  refine r_pick (v := .bool true) rfl rfl rfl ?_
  refine r_pick (v := .bool true) rfl rfl rfl ?_
  refine r_move (v := .bool true) rfl rfl rfl ?_
  refine r_skip rfl rfl (r_skip rfl rfl (r_skip rfl rfl (r_skip rfl rfl (r_skip rfl rfl (r_skip rfl rfl (r_skip rfl rfl (r_skip rfl rfl ?_)))))))
  refine r_pick (v := .bool true) rfl rfl rfl ?_
  refine r_doneN (x_then (c_true rfl (c_seq (c_reg ?_))))
  refine r_assign (v := .int .i64 0) rfl rfl rfl ?_
  refine r_assign (v := .int .i64 11) rfl rfl rfl ?_
  refine r_doneN (x_then (c_ret (x_thenR (x_end ?_))))
  rw [show valS s = (0, 11) from by first | (exact valS_top (by omega) (by omega)) | (exact valS_bad (.inl (by omega))) | (exact valS_bad (.inr ⟨by omega, by first | assumption | simpa using ‹_›⟩))]
  exact end_same (v := .tuple #[.int .i64 0, .int .i64 11]) rfl rfl rfl (by kernel_rfl) ⟨rfl, rfl, trivial⟩
  refine r_bin (v := .bool false) (vx := w8 ((bl s).getD 0 0)) (vy := w8 (0#8)) rfl rfl rfl rfl (Eq.trans eqlW (by rw [h3] <;> rfl)) ?_
  refine r_pick (v := .bool false) rfl rfl rfl ?_
  refine r_pick (v := .bool false) rfl rfl rfl ?_
  refine r_move (v := .bool false) rfl rfl rfl ?_
  refine r_move (v := .string s) rfl rfl rfl ?_
  refine r_len (p := .string s) (v := .int .i64 (s.size : Nat)) rfl rfl rfl rfl ?_
  by_cases h4 : (s.size : Nat) = 8
  refine r_bin (v := .bool true) (vx := .int .i64 (s.size : Nat)) (vy := .int .i64 8) rfl rfl rfl rfl (eql_t (by omega)) ?_
  refine r_move (v := .bool true) rfl rfl rfl ?_
  refine r_move (v := .string s) rfl rfl rfl ?_
  refine r_strIdx (p := .string s) (i := .int .i64 0) (v := w8 ((bl s).getD 0 0)) rfl rfl rfl rfl (strIdx_bl rfl (by omega) (by omega)) ?_
  by_cases h5 : 64 ≤ (((((bl s).getD 0 0).toNat) : Nat) : Int)
  refine r_bin (v := .bool true) (vx := w8 ((bl s).getD 0 0)) (vy := w8 (64#8)) rfl rfl rfl rfl (geq_t (by show 64 ≤ (((((bl s).getD 0 0).toNat) : Nat) : Int); omega)) ?_
  refine r_pick (v := .bool true) rfl rfl rfl ?_
  refine r_pick (v := .bool true) rfl rfl rfl ?_
  refine r_doneN (x_then (c_true rfl (c_seq (c_reg ?_))))
  refine r_assign (v := .int .i64 0) rfl rfl rfl ?_
  refine r_assign (v := .int .i64 11) rfl rfl rfl ?_
  refine r_doneN (x_then (c_ret (x_thenR (x_end ?_))))
  rw [show valS s = (0, 11) from by first | (exact valS_top (by omega) (by omega)) | (exact valS_bad (.inl (by omega))) | (exact valS_bad (.inr ⟨by omega, by first | assumption | simpa using ‹_›⟩))]
  exact end_same (v := .tuple #[.int .i64 0, .int .i64 11]) rfl rfl rfl (by kernel_rfl) ⟨rfl, rfl, trivial⟩
  refine r_bin (v := .bool false) (vx := w8 ((bl s).getD 0 0)) (vy := w8 (64#8)) rfl rfl rfl rfl (geq_f (by show ¬ (64 ≤ (((((bl s).getD 0 0).toNat) : Nat) : Int)); omega)) ?_
  refine r_pick (v := .bool false) rfl rfl rfl ?_
  refine r_pick (v := .bool false) rfl rfl rfl ?_
  refine r_doneN (x_then (c_false rfl (c_skip (x_then (c_seq ?_)))))
  have hN := (valS_good (s := s) (by omega) (by first | assumption | (intro; first | assumption | omega)) (by intro; omega)).2
  refine c_reg ?_
  refine r_assign (v := .int .i64 0) rfl rfl rfl ?_
  refine r_doneN (x_then (c_seq (c_seq (c_reg ?_))))
  refine r_assign (v := .int .i64 0) rfl rfl rfl ?_
  refine r_doneN (x_then (c_block ?_))
  refine c_loopN (fun x : Nat × Nat => match x with | (j, v) => [.string s, dead, .int .i64 0, .int .i64 0, .int .i64 (v : Nat), .int .i64 (j : Nat), .string s, .int .i64 (s.size : Nat), .bool false, .bool false, .string s, .int .i64 (s.size : Nat), .bool true, .bool true, .string s, w8 ((bl s).getD 0 0), .bool false, .bool false, .bool false, .bool false, .string s, .int .i64 (s.size : Nat), .bool true, .bool true, .string s, w8 ((bl s).getD 0 0), .bool false, .bool false, .bool false]) (fun x : Nat × Nat => match x with | (j, v) => []) (fun x : Nat × Nat => match x with | (j, v) => valN ((bl s).drop j) v = valN (bl s) 0 ∧ j ≤ s.size) (fun x : Nat × Nat => match x with | (j, v) => s.size - j) (0, 0) ⟨rfl, by omega⟩ ?_ ?_
  · refine weak_to (n := 0) rfl ?_ (by kernel_rfl) (by kernel_rfl)
    repeat (first | exact trivial | refine ⟨.inl rfl, ?_⟩ | refine ⟨.inr ⟨rfl, rfl⟩, ?_⟩ | refine ⟨.inr ⟨congrArg (Value.int .i64) (by first | omega | (dsimp only; omega)), rfl⟩, ?_⟩)
  rintro ⟨j, v⟩ ⟨hR, hj⟩
  dsimp only at *
  have hv0 : v ≤ 4611686018427387903 := by have := valN_ge ((bl s).drop j) v; omega
  refine c_seq (c_seq (c_reg ?_))
  refine r_move (v := .int .i64 (j : Nat)) rfl rfl rfl ?_
  refine r_move (v := .string s) rfl rfl rfl ?_
  refine r_len (p := .string s) (v := .int .i64 (s.size : Nat)) rfl rfl rfl rfl ?_
  by_cases h6 : (j : Nat) < (s.size : Nat)
  refine r_bin (v := .bool true) (vx := .int .i64 (j : Nat)) (vy := .int .i64 (s.size : Nat)) rfl rfl rfl rfl (lss_t (by omega)) ?_
  refine r_doneN (x_then (c_true rfl (c_skip (x_then (c_seq (c_block ?_))))))
  have hvs := valN_step hR (by rw [bl_len]; omega)
  refine c_reg ?_
  refine r_move (v := .int .i64 (v : Nat)) rfl rfl rfl ?_
  refine r_bin (v := .int .i64 (256 * (v : Nat))) (vx := .int .i64 256) (vy := .int .i64 (v : Nat)) rfl rfl rfl rfl (bin_mul (by omega) (by omega) (by omega)) ?_
  refine r_move (v := .string s) rfl rfl rfl ?_
  refine r_move (v := .int .i64 (j : Nat)) rfl rfl rfl ?_
  refine r_strIdx (p := .string s) (i := .int .i64 (j : Nat)) (v := w8 ((bl s).getD j 0)) rfl rfl rfl rfl (strIdx_bl rfl (by omega) (by omega)) ?_
  have hw3 := BitVec.isLt ((bl s).getD j 0)
  refine r_conv (w := w8 ((bl s).getD j 0)) (v := .int .i64 (((((bl s).getD j 0).toNat) : Nat) : Int)) rfl rfl rfl (convI rfl rfl (by have := ((bl s).getD j 0).isLt; omega) (by have := ((bl s).getD j 0).isLt; omega)) ?_
  refine r_bin (v := .int .i64 (256 * (v : Nat) + (((((bl s).getD j 0).toNat) : Nat) : Int))) (vx := .int .i64 (256 * (v : Nat))) (vy := .int .i64 (((((bl s).getD j 0).toNat) : Nat) : Int)) rfl rfl rfl rfl (bin_add (by omega) (by omega) (by omega)) ?_
  refine r_assign (v := .int .i64 (256 * (v : Nat) + (((((bl s).getD j 0).toNat) : Nat) : Int))) rfl rfl rfl ?_
  refine r_doneN (x_blockN (x_then (c_reg ?_)))
  refine r_move (v := .int .i64 (j : Nat)) rfl rfl rfl ?_
  refine r_bin (v := .int .i64 ((j : Nat) + 1)) (vx := .int .i64 (j : Nat)) (vy := .int .i64 1) rfl rfl rfl rfl (bin_add (by omega) (by omega) (by omega)) ?_
  refine r_assign (v := .int .i64 ((j : Nat) + 1)) rfl rfl rfl ?_
  refine r_doneN ?_
  refine x_round ⟨((j + 1), (256 * v + (((bl s).getD j 0).toNat))), ⟨hvs.1, by omega⟩, by show s.size - (j + 1) < s.size - j; omega, ?_⟩
  refine weak_to (n := 0) rfl ?_ (by kernel_rfl) (by kernel_rfl)
  repeat (first | exact trivial | refine ⟨.inl rfl, ?_⟩ | refine ⟨.inr ⟨rfl, rfl⟩, ?_⟩ | refine ⟨.inr ⟨congrArg (Value.int .i64) (by first | omega | (dsimp only; omega)), rfl⟩, ?_⟩)
  refine r_bin (v := .bool false) (vx := .int .i64 (j : Nat)) (vy := .int .i64 (s.size : Nat)) rfl rfl rfl rfl (lss_f (by omega)) ?_
  refine r_doneN (x_then (c_false rfl (c_exit (x_thenE (x_leaveE (x_block rfl (x_then (c_seq (c_reg ?_)))))))))
  refine r_move (v := .int .i64 (v : Nat)) rfl rfl rfl ?_
  refine r_assign (v := .int .i64 (v : Nat)) rfl rfl rfl ?_
  refine r_assign (v := .int .i64 0) rfl rfl rfl ?_
  refine r_doneN (x_then (c_ret (x_end ?_)))
  rw [(valS_good (s := s) (by omega) (by first | assumption | (intro; first | assumption | omega)) (by intro; omega)).1, show valN (bl s) 0 = v from by rw [← hR, List.drop_of_length_le (by rw [bl_len]; omega)]; rfl]
  exact end_same (v := .tuple #[.int .i64 (v : Nat), .int .i64 0]) rfl rfl rfl (by kernel_rfl) ⟨rfl, rfl, trivial⟩
  refine r_bin (v := .bool false) (vx := .int .i64 (s.size : Nat)) (vy := .int .i64 8) rfl rfl rfl rfl (eql_f (by omega)) ?_
  refine r_move (v := .bool false) rfl rfl rfl ?_
  refine r_skip rfl rfl (r_skip rfl rfl (r_skip rfl rfl ?_))
  refine r_pick (v := .bool false) rfl rfl rfl ?_
  refine r_pick (v := .bool false) rfl rfl rfl ?_
  refine r_doneN (x_then (c_false rfl (c_skip (x_then (c_seq ?_)))))
  have hN := (valS_good (s := s) (by omega) (by first | assumption | (intro; first | assumption | omega)) (by intro; omega)).2
  refine c_reg ?_
  refine r_assign (v := .int .i64 0) rfl rfl rfl ?_
  refine r_doneN (x_then (c_seq (c_seq (c_reg ?_))))
  refine r_assign (v := .int .i64 0) rfl rfl rfl ?_
  refine r_doneN (x_then (c_block ?_))
  refine c_loopN (fun x : Nat × Nat => match x with | (j, v) => [.string s, dead, .int .i64 0, .int .i64 0, .int .i64 (v : Nat), .int .i64 (j : Nat), .string s, .int .i64 (s.size : Nat), .bool false, .bool false, .string s, .int .i64 (s.size : Nat), .bool true, .bool true, .string s, w8 ((bl s).getD 0 0), .bool false, .bool false, .bool false, .bool false, .string s, .int .i64 (s.size : Nat), .bool false, .bool false, dead, dead, dead, .bool false, .bool false]) (fun x : Nat × Nat => match x with | (j, v) => []) (fun x : Nat × Nat => match x with | (j, v) => valN ((bl s).drop j) v = valN (bl s) 0 ∧ j ≤ s.size) (fun x : Nat × Nat => match x with | (j, v) => s.size - j) (0, 0) ⟨rfl, by omega⟩ ?_ ?_
  · refine weak_to (n := 0) rfl ?_ (by kernel_rfl) (by kernel_rfl)
    repeat (first | exact trivial | refine ⟨.inl rfl, ?_⟩ | refine ⟨.inr ⟨rfl, rfl⟩, ?_⟩ | refine ⟨.inr ⟨congrArg (Value.int .i64) (by first | omega | (dsimp only; omega)), rfl⟩, ?_⟩)
  rintro ⟨j, v⟩ ⟨hR, hj⟩
  dsimp only at *
  have hv0 : v ≤ 4611686018427387903 := by have := valN_ge ((bl s).drop j) v; omega
  refine c_seq (c_seq (c_reg ?_))
  refine r_move (v := .int .i64 (j : Nat)) rfl rfl rfl ?_
  refine r_move (v := .string s) rfl rfl rfl ?_
  refine r_len (p := .string s) (v := .int .i64 (s.size : Nat)) rfl rfl rfl rfl ?_
  by_cases h7 : (j : Nat) < (s.size : Nat)
  refine r_bin (v := .bool true) (vx := .int .i64 (j : Nat)) (vy := .int .i64 (s.size : Nat)) rfl rfl rfl rfl (lss_t (by omega)) ?_
  refine r_doneN (x_then (c_true rfl (c_skip (x_then (c_seq (c_block ?_))))))
  have hvs := valN_step hR (by rw [bl_len]; omega)
  refine c_reg ?_
  refine r_move (v := .int .i64 (v : Nat)) rfl rfl rfl ?_
  refine r_bin (v := .int .i64 (256 * (v : Nat))) (vx := .int .i64 256) (vy := .int .i64 (v : Nat)) rfl rfl rfl rfl (bin_mul (by omega) (by omega) (by omega)) ?_
  refine r_move (v := .string s) rfl rfl rfl ?_
  refine r_move (v := .int .i64 (j : Nat)) rfl rfl rfl ?_
  refine r_strIdx (p := .string s) (i := .int .i64 (j : Nat)) (v := w8 ((bl s).getD j 0)) rfl rfl rfl rfl (strIdx_bl rfl (by omega) (by omega)) ?_
  have hw4 := BitVec.isLt ((bl s).getD j 0)
  refine r_conv (w := w8 ((bl s).getD j 0)) (v := .int .i64 (((((bl s).getD j 0).toNat) : Nat) : Int)) rfl rfl rfl (convI rfl rfl (by have := ((bl s).getD j 0).isLt; omega) (by have := ((bl s).getD j 0).isLt; omega)) ?_
  refine r_bin (v := .int .i64 (256 * (v : Nat) + (((((bl s).getD j 0).toNat) : Nat) : Int))) (vx := .int .i64 (256 * (v : Nat))) (vy := .int .i64 (((((bl s).getD j 0).toNat) : Nat) : Int)) rfl rfl rfl rfl (bin_add (by omega) (by omega) (by omega)) ?_
  refine r_assign (v := .int .i64 (256 * (v : Nat) + (((((bl s).getD j 0).toNat) : Nat) : Int))) rfl rfl rfl ?_
  refine r_doneN (x_blockN (x_then (c_reg ?_)))
  refine r_move (v := .int .i64 (j : Nat)) rfl rfl rfl ?_
  refine r_bin (v := .int .i64 ((j : Nat) + 1)) (vx := .int .i64 (j : Nat)) (vy := .int .i64 1) rfl rfl rfl rfl (bin_add (by omega) (by omega) (by omega)) ?_
  refine r_assign (v := .int .i64 ((j : Nat) + 1)) rfl rfl rfl ?_
  refine r_doneN ?_
  refine x_round ⟨((j + 1), (256 * v + (((bl s).getD j 0).toNat))), ⟨hvs.1, by omega⟩, by show s.size - (j + 1) < s.size - j; omega, ?_⟩
  refine weak_to (n := 0) rfl ?_ (by kernel_rfl) (by kernel_rfl)
  repeat (first | exact trivial | refine ⟨.inl rfl, ?_⟩ | refine ⟨.inr ⟨rfl, rfl⟩, ?_⟩ | refine ⟨.inr ⟨congrArg (Value.int .i64) (by first | omega | (dsimp only; omega)), rfl⟩, ?_⟩)
  refine r_bin (v := .bool false) (vx := .int .i64 (j : Nat)) (vy := .int .i64 (s.size : Nat)) rfl rfl rfl rfl (lss_f (by omega)) ?_
  refine r_doneN (x_then (c_false rfl (c_exit (x_thenE (x_leaveE (x_block rfl (x_then (c_seq (c_reg ?_)))))))))
  refine r_move (v := .int .i64 (v : Nat)) rfl rfl rfl ?_
  refine r_assign (v := .int .i64 (v : Nat)) rfl rfl rfl ?_
  refine r_assign (v := .int .i64 0) rfl rfl rfl ?_
  refine r_doneN (x_then (c_ret (x_end ?_)))
  rw [(valS_good (s := s) (by omega) (by first | assumption | (intro; first | assumption | omega)) (by intro; omega)).1, show valN (bl s) 0 = v from by rw [← hR, List.drop_of_length_le (by rw [bl_len]; omega)]; rfl]
  exact end_same (v := .tuple #[.int .i64 (v : Nat), .int .i64 0]) rfl rfl rfl (by kernel_rfl) ⟨rfl, rfl, trivial⟩
  refine r_bin (v := .bool false) (vx := .int .i64 (s.size : Nat)) (vy := .int .i64 0) rfl rfl rfl rfl (gtr_f (by omega)) ?_
  refine r_move (v := .bool false) rfl rfl rfl ?_
  refine r_skip rfl rfl (r_skip rfl rfl (r_skip rfl rfl ?_))
  refine r_pick (v := .bool false) rfl rfl rfl ?_
  refine r_pick (v := .bool false) rfl rfl rfl ?_
  refine r_move (v := .bool false) rfl rfl rfl ?_
  refine r_move (v := .string s) rfl rfl rfl ?_
  refine r_len (p := .string s) (v := .int .i64 (s.size : Nat)) rfl rfl rfl rfl ?_
  refine r_bin (v := .bool false) (vx := .int .i64 (s.size : Nat)) (vy := .int .i64 8) rfl rfl rfl rfl (eql_f (by omega)) ?_
  refine r_move (v := .bool false) rfl rfl rfl ?_
  refine r_skip rfl rfl (r_skip rfl rfl (r_skip rfl rfl ?_))
  refine r_pick (v := .bool false) rfl rfl rfl ?_
  refine r_pick (v := .bool false) rfl rfl rfl ?_
  refine r_doneN (x_then (c_false rfl (c_skip (x_then (c_seq ?_)))))
  have hN := (valS_good (s := s) (by omega) (by first | assumption | (intro; first | assumption | omega)) (by intro; omega)).2
  refine c_reg ?_
  refine r_assign (v := .int .i64 0) rfl rfl rfl ?_
  refine r_doneN (x_then (c_seq (c_seq (c_reg ?_))))
  refine r_assign (v := .int .i64 0) rfl rfl rfl ?_
  refine r_doneN (x_then (c_block ?_))
  refine c_loopN (fun x : Nat × Nat => match x with | (j, v) => [.string s, dead, .int .i64 0, .int .i64 0, .int .i64 (v : Nat), .int .i64 (j : Nat), .string s, .int .i64 (s.size : Nat), .bool false, .bool false, .string s, .int .i64 (s.size : Nat), .bool false, .bool false, dead, dead, dead, .bool false, .bool false, .bool false, .string s, .int .i64 (s.size : Nat), .bool false, .bool false, dead, dead, dead, .bool false, .bool false]) (fun x : Nat × Nat => match x with | (j, v) => []) (fun x : Nat × Nat => match x with | (j, v) => valN ((bl s).drop j) v = valN (bl s) 0 ∧ j ≤ s.size) (fun x : Nat × Nat => match x with | (j, v) => s.size - j) (0, 0) ⟨rfl, by omega⟩ ?_ ?_
  · refine weak_to (n := 0) rfl ?_ (by kernel_rfl) (by kernel_rfl)
    repeat (first | exact trivial | refine ⟨.inl rfl, ?_⟩ | refine ⟨.inr ⟨rfl, rfl⟩, ?_⟩ | refine ⟨.inr ⟨congrArg (Value.int .i64) (by first | omega | (dsimp only; omega)), rfl⟩, ?_⟩)
  rintro ⟨j, v⟩ ⟨hR, hj⟩
  dsimp only at *
  have hv0 : v ≤ 4611686018427387903 := by have := valN_ge ((bl s).drop j) v; omega
  refine c_seq (c_seq (c_reg ?_))
  refine r_move (v := .int .i64 (j : Nat)) rfl rfl rfl ?_
  refine r_move (v := .string s) rfl rfl rfl ?_
  refine r_len (p := .string s) (v := .int .i64 (s.size : Nat)) rfl rfl rfl rfl ?_
  refine r_bin (v := .bool false) (vx := .int .i64 (j : Nat)) (vy := .int .i64 (s.size : Nat)) rfl rfl rfl rfl (lss_f (by omega)) ?_
  refine r_doneN (x_then (c_false rfl (c_exit (x_thenE (x_leaveE (x_block rfl (x_then (c_seq (c_reg ?_)))))))))
  refine r_move (v := .int .i64 (v : Nat)) rfl rfl rfl ?_
  refine r_assign (v := .int .i64 (v : Nat)) rfl rfl rfl ?_
  refine r_assign (v := .int .i64 0) rfl rfl rfl ?_
  refine r_doneN (x_then (c_ret (x_end ?_)))
  rw [(valS_good (s := s) (by omega) (by first | assumption | (intro; first | assumption | omega)) (by intro; omega)).1, show valN (bl s) 0 = v from by rw [← hR, List.drop_of_length_le (by rw [bl_len]; omega)]; rfl]
  exact end_same (v := .tuple #[.int .i64 (v : Nat), .int .i64 0]) rfl rfl rfl (by kernel_rfl) ⟨rfl, rfl, trivial⟩
theorem rVal_ok (s : ByteArray) : CallL Tryd.prog G 43 [.string s] [] (.int .i64 (vR s)) [] := by
  refine walk (fn := Tryd.f43) (nt := 13) rfl rfl rfl rfl ?_
  refine c_seq (c_reg ?_)
  refine r_assign (v := .int .i64 0) rfl rfl rfl ?_
  refine r_doneN (x_then (c_seq (c_reg ?_)))
  refine r_move (v := .string s) rfl rfl rfl ?_
  refine r_callP (rValue_ok (G := G) s) (vals := [.string s]) (res' := .tuple #[.int .i64 (((valS s).1)), .int .i64 (((valS s).2))]) rfl rfl rfl rfl rfl (by kernel_rfl) ?_
  refine r_move (v := .tuple #[.int .i64 (((valS s).1)), .int .i64 (((valS s).2))]) rfl rfl rfl ?_
  refine r_extract (vs := #[.int .i64 (((valS s).1)), .int .i64 (((valS s).2))]) (v := .int .i64 (((valS s).1))) rfl rfl rfl rfl ?_
  refine r_extract (vs := #[.int .i64 (((valS s).1)), .int .i64 (((valS s).2))]) (v := .int .i64 (((valS s).2))) rfl rfl rfl rfl ?_
  refine r_assign (v := .int .i64 (((valS s).1))) rfl rfl rfl ?_
  refine r_assign (v := .int .i64 (((valS s).2))) rfl rfl rfl ?_
  refine r_doneN (x_then (c_seq (c_seq (c_reg ?_))))
  refine r_move (v := .int .i64 (((valS s).2))) rfl rfl rfl ?_
  by_cases h1 : (((valS s).2)) ≠ 0
  refine r_bin (v := .bool true) (vx := .int .i64 (((valS s).2))) (vy := .int .i64 0) rfl rfl rfl rfl (neq_t (by omega)) ?_
  refine r_doneN (x_then (c_true rfl (c_seq (c_reg ?_))))
  refine r_assign (v := .int .i64 (-1)) rfl rfl rfl ?_
  refine r_doneN (x_then (c_ret (x_thenR (x_end ?_))))
  rw [show vR s = -1 from if_pos (by omega)]
  exact end_same (v := .int .i64 (-1)) rfl rfl rfl (by kernel_rfl) rfl
  refine r_bin (v := .bool false) (vx := .int .i64 (((valS s).2))) (vy := .int .i64 0) rfl rfl rfl rfl (neq_f (by omega)) ?_
  refine r_doneN (x_then (c_false rfl (c_skip (x_then (c_seq (c_reg ?_))))))
  refine r_move (v := .int .i64 (((valS s).1))) rfl rfl rfl ?_
  refine r_assign (v := .int .i64 (((valS s).1))) rfl rfl rfl ?_
  refine r_doneN (x_then (c_ret (x_end ?_)))
  rw [show vR s = (((valS s).1)) from if_neg (by omega)]
  exact end_same (v := .int .i64 (((valS s).1))) rfl rfl rfl (by kernel_rfl) rfl
theorem rDigest_ok (s : ByteArray) : CallL Tryd.prog G 42 [.string s] [] (.tuple #[dgV (digR s).1, .bool (digR s).2]) [] := by
  refine walk (fn := Tryd.f42) (nt := 20) rfl rfl rfl rfl ?_
  refine c_hole 2 (H' := [hole, hole]) rfl ?_
  refine c_seq (c_reg ?_)
  refine r_alloc (b := dgB dz) (nid := 0) (H' := [dgB dz, hole]) rfl rfl (by kernel_rfl) (by kernel_rfl) ?_
  refine r_assign (v := .bool false) rfl rfl rfl ?_
  refine r_doneN (x_then (c_seq (c_reg ?_)))
  refine r_alloc (b := dgB dz) (nid := 1) (H' := [dgB dz, dgB dz]) rfl rfl (by kernel_rfl) (by kernel_rfl) ?_
  refine r_doneN (x_then (c_seq (c_seq (c_reg ?_))))
  refine r_move (v := .string s) rfl rfl rfl ?_
  refine r_len (p := .string s) (v := .int .i64 (s.size : Nat)) rfl rfl rfl rfl ?_
  by_cases h1 : (s.size : Nat) ≠ 32
  refine r_bin (v := .bool true) (vx := .int .i64 (s.size : Nat)) (vy := .int .i64 32) rfl rfl rfl rfl (neq_t (by omega)) ?_
  refine r_doneN (x_then (c_true rfl (c_seq (c_reg ?_))))
  refine r_load (p := pt 1 0) (v := dgV dz) rfl rfl rfl (by kernel_rfl) ?_
  refine r_store (p := pt 0 0) (v := dgV dz) (b := 0) (blk := dgB dz) (H' := [dgB dz, dgB dz]) rfl rfl rfl (by kernel_rfl) (by kernel_rfl) ?_
  refine r_assign (v := .bool false) rfl rfl rfl ?_
  refine r_doneN (x_then (c_ret (x_thenR (x_end ?_))))
  rw [show digR s = (dz, false) from if_neg (by omega)]
  exact end_same (v := .tuple #[dgV dz, .bool false]) (by kernel_rfl) rfl rfl (by kernel_rfl) ⟨(argV_pure (pure_row fun _ => rfl) rfl), rfl, trivial⟩
  refine r_bin (v := .bool false) (vx := .int .i64 (s.size : Nat)) (vy := .int .i64 32) rfl rfl rfl rfl (neq_f (by omega)) ?_
  refine r_doneN (x_then (c_false rfl (c_skip (x_then (c_seq (c_seq (c_reg ?_)))))))
  refine r_assign (v := .int .i64 0) rfl rfl rfl ?_
  refine r_doneN (x_then (c_block ?_))
  refine c_loopN (fun x : Nat × D => match x with | (i, d) => [.string s, dead, pt 0 0, .bool false, pt 1 0, .int .i64 (i : Nat), .string s, .int .i64 (s.size : Nat), .bool false]) (fun x : Nat × D => match x with | (i, d) => [dgB dz, dgB d]) (fun x : Nat × D => match x with | (i, d) => d = cpTo s i ∧ i ≤ 32) (fun x : Nat × D => match x with | (i, d) => 32 - i) (0, dz) ⟨(cpTo_zero s).symm, by omega⟩ ?_ ?_
  · refine weak_to (n := 2) rfl ?_ (by kernel_rfl) (by kernel_rfl)
    repeat (first | exact trivial | refine ⟨.inl rfl, ?_⟩ | refine ⟨.inr ⟨rfl, rfl⟩, ?_⟩ | refine ⟨.inr ⟨congrArg (Value.int .i64) (by first | omega | (dsimp only; omega)), rfl⟩, ?_⟩)
  rintro ⟨i, d⟩ ⟨hd, hi⟩
  dsimp only at *
  refine c_seq (c_seq (c_reg ?_))
  refine r_move (v := .int .i64 (i : Nat)) rfl rfl rfl ?_
  by_cases h2 : (i : Nat) < 32
  refine r_bin (v := .bool true) (vx := .int .i64 (i : Nat)) (vy := .int .i64 32) rfl rfl rfl rfl (lss_t (by omega)) ?_
  refine r_doneN (x_then (c_true rfl (c_skip (x_then (c_seq (c_block (c_reg ?_)))))))
  refine r_move (v := .int .i64 (i : Nat)) rfl rfl rfl ?_
  refine r_move (v := .string s) rfl rfl rfl ?_
  refine r_move (v := .int .i64 (i : Nat)) rfl rfl rfl ?_
  refine r_strIdx (p := .string s) (i := .int .i64 (i : Nat)) (v := w8 ((bl s).getD i 0)) rfl rfl rfl rfl (strIdx_bl rfl (by omega) (by omega)) ?_
  refine r_idxA (b := 1) (o := 0) (j := i) (n := 32) (sz := 1) (i := (i : Nat)) (k := .i64) rfl rfl rfl rfl rfl (by omega) (by omega) (by omega) ?_
  refine r_store (p := pt 1 i) (v := w8 ((bl s).getD i 0)) (b := 1) (blk := dgB (updN d i ((bl s).getD i 0))) (H' := [dgB dz, dgB (updN d i ((bl s).getD i 0))]) rfl rfl rfl (storeD_row (blk := dgB d) (i := i) (enc := w8) (n := 32) (w := d) (x := ((bl s).getD i 0)) rfl rfl rfl rfl rfl (by omega) rfl rfl) (by kernel_rfl) ?_
  refine r_doneN (x_blockN (x_then (c_reg ?_)))
  refine r_move (v := .int .i64 (i : Nat)) rfl rfl rfl ?_
  refine r_bin (v := .int .i64 ((i : Nat) + 1)) (vx := .int .i64 (i : Nat)) (vy := .int .i64 1) rfl rfl rfl rfl (bin_add (by omega) (by omega) (by omega)) ?_
  refine r_assign (v := .int .i64 ((i : Nat) + 1)) rfl rfl rfl ?_
  refine r_doneN ?_
  refine x_round ⟨((i + 1), (updN d i ((bl s).getD i 0))), ⟨by dsimp only; rw [hd]; exact cpTo_step, by omega⟩, by show 32 - (i + 1) < 32 - i; omega, ?_⟩
  refine weak_to (n := 2) rfl ?_ (by kernel_rfl) (by kernel_rfl)
  repeat (first | exact trivial | refine ⟨.inl rfl, ?_⟩ | refine ⟨.inr ⟨rfl, rfl⟩, ?_⟩ | refine ⟨.inr ⟨congrArg (Value.int .i64) (by first | omega | (dsimp only; omega)), rfl⟩, ?_⟩)
  refine r_bin (v := .bool false) (vx := .int .i64 (i : Nat)) (vy := .int .i64 32) rfl rfl rfl rfl (lss_f (by omega)) ?_
  refine r_doneN (x_then (c_false rfl (c_exit (x_thenE (x_leaveE (x_block rfl (x_then (c_seq (c_reg ?_)))))))))
  refine r_load (p := pt 1 0) (v := dgV d) rfl rfl rfl (by kernel_rfl) ?_
  refine r_store (p := pt 0 0) (v := dgV d) (b := 0) (blk := dgB d) (H' := [dgB d, dgB d]) rfl rfl rfl (by kernel_rfl) (by kernel_rfl) ?_
  refine r_assign (v := .bool true) rfl rfl rfl ?_
  refine r_doneN (x_then (c_ret (x_end ?_)))
  rw [show digR s = (d, true) from by unfold digR; rw [if_pos (by omega), hd, show i = s.size by omega]; rfl]
  exact end_same (v := .tuple #[dgV d, .bool true]) (by kernel_rfl) rfl rfl (by kernel_rfl) ⟨(argV_pure (pure_row fun _ => rfl) rfl), rfl, trivial⟩
end Go.Flat
