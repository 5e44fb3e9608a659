/- Walks and plain laws: what each theorem says, within the bounds that it names. -/
import Derived.Test.YthfklplpfbmkgaaDoorXB
set_option linter.unusedVariables false
set_option linter.unusedSimpArgs false
set_option maxRecDepth 20000
namespace Go.Flat
open Go.Proofs
variable {G : Glob}
structure Field where
  tag : Int
  data : ByteArray
def fdC (f : Field) : List Value := [.int .i64 f.tag, .string f.data]
def fdV (f : Field) : Value := .agg (fdC f).toArray
def cFd : Cod Field := ⟨fdC, 2, fun _ => rfl, by decide⟩
instance : Inhabited Field := ⟨⟨0, ⟨#[]⟩⟩⟩

def numF : Nat → Nat → Nat → D → Bs
  | 0, _, a, b => (rowL 8 b).drop a
  | f + 1, n, a, b => if n = 0 then (rowL 8 b).drop a else numF f (n / 256) (a - 1) (updN b (a - 1) (BitVec.ofInt 8 (n : Int)))
theorem numF_zero (f a : Nat) (b : D) : numF f 0 a b = (rowL 8 b).drop a := by cases f <;> simp [numF]
theorem pow_pos_of {k a : Nat} (hk : k < 256 ^ a) (h : 1 ≤ k) : 1 ≤ a := by
  cases a with
  | zero => simp at hk; omega
  | succ a => omega
theorem numF_step {a k q a' : Nat} {b : D} {x : BitVec 8} {R : Bs} (hR : numF a k a b = R) (hk : k < 256 ^ a) (h1 : 0 < k) (hx : x = BitVec.ofInt 8 (k : Int)) (ha' : a = a' + 1) (hq : q = k / 256 := by rfl) (h8 : a ≤ 8 := by omega) : numF a' q a' (updN b a' x) = R ∧ q < 256 ^ a' ∧ a' ≤ 8 := by
  subst ha'; subst hx; subst hq
  refine ⟨?_, ?_, by omega⟩
  · rw [numF, if_neg (by omega)] at hR; exact hR
  · rw [Nat.pow_succ] at hk; exact Nat.div_lt_of_lt_mul (by omega)
def numS (n : Int) : ByteArray × Int := if 0 ≤ n ∧ n ≤ 4611686018427387903 then (strOf (numF 8 n.toNat 8 dz), 0) else (⟨#[]⟩, 1)
theorem Number_ok (n : Int) (hl : -9223372036854775808 ≤ n) (hh : n ≤ 9223372036854775807) : CallL Tryd.prog G 50 [.int .i64 n] [] (.tuple #[.string (numS n).1, .int .i64 (numS n).2]) [] := by
  refine walk (fn := Tryd.f50) (nt := 25) rfl rfl rfl rfl ?_
  refine c_hole 1 (H' := [hole]) rfl ?_
  refine c_seq (c_reg ?_)
  refine r_assign (v := .string ⟨#[]⟩) rfl rfl rfl ?_
  refine r_assign (v := .int .i64 0) rfl rfl rfl ?_
  refine r_doneN (x_then (c_seq (c_seq (c_reg ?_))))
  refine r_move (v := .int .i64 n) rfl rfl rfl ?_
  by_cases h1 : n < 0
  refine r_bin (v := .bool true) (vx := .int .i64 n) (vy := .int .i64 0) rfl rfl rfl rfl (lss_t (by omega)) ?_
  refine r_move (v := .bool true) rfl rfl rfl ?_
  refine r_skip rfl rfl (r_skip rfl rfl ?_)
  refine r_pick (v := .bool true) rfl rfl rfl ?_
  refine r_doneN (x_then (c_true rfl (c_seq (c_reg ?_))))
  refine r_assign (v := .string ⟨#[]⟩) rfl rfl rfl ?_
  refine r_assign (v := .int .i64 1) rfl rfl rfl ?_
  refine r_doneN (x_then (c_ret (x_thenR (x_end ?_))))
  rw [show numS n = (⟨#[]⟩, 1) from if_neg (by omega)]
  exact end_same (v := .tuple #[.string ⟨#[]⟩, .int .i64 1]) rfl rfl rfl (by kernel_rfl) ⟨rfl, rfl, trivial⟩
  refine r_bin (v := .bool false) (vx := .int .i64 n) (vy := .int .i64 0) rfl rfl rfl rfl (lss_f (by omega)) ?_
  refine r_move (v := .bool false) rfl rfl rfl ?_
  refine r_move (v := .int .i64 n) rfl rfl rfl ?_
  by_cases h2 : 4611686018427387903 < n
  refine r_bin (v := .bool true) (vx := .int .i64 n) (vy := .int .i64 4611686018427387903) rfl rfl rfl rfl (gtr_t (by omega)) ?_
  refine r_pick (v := .bool true) rfl rfl rfl ?_
  refine r_doneN (x_then (c_true rfl (c_seq (c_reg ?_))))
  refine r_assign (v := .string ⟨#[]⟩) rfl rfl rfl ?_
  refine r_assign (v := .int .i64 1) rfl rfl rfl ?_
  refine r_doneN (x_then (c_ret (x_thenR (x_end ?_))))
  rw [show numS n = (⟨#[]⟩, 1) from if_neg (by omega)]
  exact end_same (v := .tuple #[.string ⟨#[]⟩, .int .i64 1]) rfl rfl rfl (by kernel_rfl) ⟨rfl, rfl, trivial⟩
  refine r_bin (v := .bool false) (vx := .int .i64 n) (vy := .int .i64 4611686018427387903) rfl rfl rfl rfl (gtr_f (by omega)) ?_
  refine r_pick (v := .bool false) rfl rfl rfl ?_
  refine r_doneN (x_then (c_false rfl (c_skip (x_then (c_seq ?_)))))
  obtain ⟨m, rfl⟩ : ∃ x0 : Nat, n = (x0 : Int) := ⟨n.toNat, by omega⟩
  refine c_reg ?_
  refine r_alloc (b := bxB 8 (rowE w8 8 dz)) (nid := 0) (H' := [bxB 8 (rowE w8 8 dz)]) rfl rfl (by kernel_rfl) (by kernel_rfl) ?_
  refine r_doneN (x_then (c_seq (c_reg ?_)))
  refine r_assign (v := .int .i64 8) rfl rfl rfl ?_
  refine r_doneN (x_then (c_seq (c_block ?_)))
  refine c_loopN (fun x : Nat × Nat × D => match x with | (k, a, b) => [.int .i64 (k : Nat), dead, .string ⟨#[]⟩, .int .i64 0, pt 0 0, .int .i64 (a : Nat), .int .i64 (m : Nat), .bool false, .bool false, .int .i64 (m : Nat), .bool false, .bool false]) (fun x : Nat × Nat × D => match x with | (k, a, b) => [bxB 8 (rowE w8 8 b)]) (fun x : Nat × Nat × D => match x with | (k, a, b) => numF a k a b = numF 8 m 8 dz ∧ k < 256 ^ a ∧ a ≤ 8) (fun x : Nat × Nat × D => match x with | (k, a, b) => a) (m, 8, dz) ⟨rfl, by omega, by omega⟩ ?_ ?_
  · refine weak_to (n := 1) rfl ?_ (by kernel_rfl) (by kernel_rfl)
    repeat (first | exact trivial | refine ⟨.inl rfl, ?_⟩ | refine ⟨.inr ⟨rfl, rfl⟩, ?_⟩ | refine ⟨.inr ⟨congrArg (Value.int .i64) (by first | omega | (dsimp only; omega)), rfl⟩, ?_⟩)
  rintro ⟨k, a, b⟩ ⟨hR, hk, ha⟩
  dsimp only at *
  refine c_seq (c_seq (c_reg ?_))
  refine r_move (v := .int .i64 (k : Nat)) rfl rfl rfl ?_
  by_cases h3 : 0 < (k : Nat)
  refine r_bin (v := .bool true) (vx := .int .i64 (k : Nat)) (vy := .int .i64 0) rfl rfl rfl rfl (gtr_t (by omega)) ?_
  refine r_doneN (x_then (c_true rfl (c_skip (x_then (c_seq (c_block (c_seq ?_)))))))
  have h1a := pow_pos_of hk (by omega)
  refine c_reg ?_
  refine r_move (v := .int .i64 (a : Nat)) rfl rfl rfl ?_
  refine r_bin (v := .int .i64 ((a : Nat) - 1)) (vx := .int .i64 (a : Nat)) (vy := .int .i64 1) rfl rfl rfl rfl (bin_sub (by omega) (by omega) (by omega)) ?_
  refine r_assign (v := .int .i64 ((a : Nat) - 1)) rfl rfl rfl ?_
  refine r_doneN (x_then (c_reg ?_))
  refine r_move (v := .int .i64 ((a : Nat) - 1)) rfl rfl rfl ?_
  refine r_move (v := .int .i64 (k : Nat)) rfl rfl rfl ?_
  refine r_conv (w := .int .i64 (k : Nat)) (v := w8 (BitVec.ofInt 8 (k : Nat))) rfl rfl rfl (conv8 rfl rfl rfl) ?_
  refine r_idxA (b := 0) (o := 0) (j := a - 1) (n := 8) (sz := 1) (i := (a : Nat) - 1) (k := .i64) rfl rfl rfl rfl rfl (by omega) (by omega) (by omega) ?_
  refine r_store (p := pt 0 (a - 1)) (v := w8 (BitVec.ofInt 8 (k : Nat))) (b := 0) (blk := bxB 8 (rowE w8 8 (updN b (a - 1) (BitVec.ofInt 8 (k : Nat))))) (H' := [bxB 8 (rowE w8 8 (updN b (a - 1) (BitVec.ofInt 8 (k : Nat))))]) rfl rfl rfl (storeD_row (blk := bxB 8 (rowE w8 8 b)) (i := a - 1) (enc := w8) (n := 8) (w := b) (x := (BitVec.ofInt 8 (k : Nat))) rfl rfl rfl rfl rfl (by omega) rfl rfl) (by kernel_rfl) ?_
  refine r_doneN (x_blockN (x_then (c_reg ?_)))
  refine r_move (v := .int .i64 (k : Nat)) rfl rfl rfl ?_
  refine r_bin (v := .int .i64 (((k / 256) : Nat) : Int)) (vx := .int .i64 (k : Nat)) (vy := .int .u64 8) rfl rfl rfl rfl (shr_p 8 (by omega) (by omega) (by omega) (by omega)) ?_
  refine r_assign (v := .int .i64 (((k / 256) : Nat) : Int)) rfl rfl rfl ?_
  refine r_doneN ?_
  refine x_round ⟨((k / 256), (a - 1), (updN b (a - 1) (BitVec.ofInt 8 (k : Nat)))), numF_step (a' := a - 1) hR hk (by omega) rfl (by omega), by show a - 1 < a; omega, ?_⟩
  refine weak_to (n := 1) rfl ?_ (by kernel_rfl) (by kernel_rfl)
  repeat (first | exact trivial | refine ⟨.inl rfl, ?_⟩ | refine ⟨.inr ⟨rfl, rfl⟩, ?_⟩ | refine ⟨.inr ⟨congrArg (Value.int .i64) (by first | omega | (dsimp only; omega)), rfl⟩, ?_⟩)
  refine r_bin (v := .bool false) (vx := .int .i64 (k : Nat)) (vy := .int .i64 0) rfl rfl rfl rfl (gtr_f (by omega)) ?_
  refine r_doneN (x_then (c_false rfl (c_exit (x_thenE (x_leaveE (x_block rfl (x_then (c_seq (c_reg ?_)))))))))
  refine r_move (v := .int .i64 (a : Nat)) rfl rfl rfl ?_
  refine r_slice (p := pt 0 0) (vl := some (.int .i64 (a : Nat))) (vh := none) (v := slv 0 a (8 - a) (8 - a)) rfl rfl rfl rfl rfl (slice_arr (sz := 1) (l := a) (h := 8) rfl rfl rfl (bnd_lo (by omega) (by omega)) rfl (by omega) (by omega) (by omega)) ?_
  refine r_str (p := slv 0 a (8 - a) (8 - a)) (v := .string (strOf (((rowL 8 b).drop a).take (8 - a)))) rfl rfl rfl (str_row (l := rowL 8 b) rfl rfl rfl rfl (rowE_rowL _ _) (by rw [rowL_len]; omega) rfl) ?_
  refine r_assign (v := .string (strOf (((rowL 8 b).drop a).take (8 - a)))) rfl rfl rfl ?_
  refine r_assign (v := .int .i64 0) rfl rfl rfl ?_
  refine r_doneN (x_then (c_ret (x_end ?_)))
  have e : numS (m : Nat) = ((strOf (((rowL 8 b).drop a).take (8 - a))), 0) := by
    rw [show numS (m : Nat) = (strOf (numF 8 m 8 dz), 0) from if_pos (by omega), ← hR]
    obtain rfl : k = 0 := by omega
    rw [numF_zero, List.take_of_length_le (by rw [List.length_drop, rowL_len]; omega)]
  rw [e]
  exact end_same (v := .tuple #[.string (strOf (((rowL 8 b).drop a).take (8 - a))), .int .i64 0]) rfl rfl rfl (by kernel_rfl) ⟨rfl, rfl, trivial⟩
end Go.Flat
