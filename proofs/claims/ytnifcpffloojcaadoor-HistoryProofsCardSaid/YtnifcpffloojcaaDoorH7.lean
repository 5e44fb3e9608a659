/- Walks and plain laws: what each theorem says, within the bounds that it names. -/
import Derived.Test.YtnifcpffloojcaaDoorH6
set_option linter.unusedVariables false
set_option linter.unusedSimpArgs false
set_option maxRecDepth 20000
set_option maxRecDepth 20000
namespace Go.Flat
open Go.Proofs
variable {G : Glob}
theorem fldB_len' (k : Int) (s : ByteArray) : (fldB ⟨k, s⟩).length = s.size + 4 := fldB_len _
def beL : Nat → Nat → Bs → Bs
  | 0, _, l => l
  | f + 1, n, l => if n = 0 then l else beL f (n / 256) (BitVec.ofInt 8 (n : Int) :: l)
theorem beL_zero (f : Nat) (l : Bs) : beL f 0 l = l := by cases f <;> simp [beL]
theorem ofInt_mod (n : Nat) : BitVec.ofInt 8 ((n % 256 : Nat) : Int) = BitVec.ofInt 8 (n : Int) := by
  rw [BitVec.ofInt_natCast, BitVec.ofInt_natCast]
  apply BitVec.eq_of_toNat_eq
  simp
theorem beL_step {a k : Nat} {s : ByteArray} {R : Bs} (hR : beL a k (bl s) = R) (hk : k < 256 ^ a) (h1 : 0 < k) (ha : s.size + a ≤ 8) :
    beL (a - 1) (k / 256) (bl (strOf [BitVec.ofInt 8 ((k % 256 : Nat) : Int)] ++ s)) = R ∧ k / 256 < 256 ^ (a - 1) ∧ (strOf [BitVec.ofInt 8 ((k % 256 : Nat) : Int)] ++ s).size + (a - 1) ≤ 8 := by
  obtain ⟨b, rfl⟩ : ∃ b, a = b + 1 := ⟨a - 1, by have := pow_pos_of hk h1; omega⟩
  refine ⟨?_, ?_, ?_⟩
  · rw [beL, if_neg (by omega)] at hR
    rw [bl_append, bl_strOf, ofInt_mod]; exact hR
  · rw [Nat.pow_succ] at hk; exact Nat.div_lt_of_lt_mul (by rw [Nat.add_sub_cancel]; omega)
  · rw [ByteArray.size_append, strOf_size]; simp; omega
theorem rowL_drop_upd (b : D) (a : Nat) (x : BitVec 8) (h : a < 8) : (rowL 8 (updN b a x)).drop a = x :: (rowL 8 b).drop (a + 1) := by
  apply List.ext_getElem?
  intro i
  cases i with
  | zero => simp [rowL, updN, h]
  | succ i =>
    simp only [List.getElem?_drop, List.getElem?_cons_succ, rowL, List.getElem?_map]
    by_cases hi : a + 1 + i < 8
    · rw [show a + (i + 1) = a + 1 + i by omega, List.getElem?_range hi]
      simp only [Option.map_some, updN]
      rw [if_neg (by omega)]
    · rw [show a + (i + 1) = a + 1 + i by omega, List.getElem?_eq_none (by simp; omega)]; rfl
theorem numF_beL : ∀ (a n : Nat) (b : D), a ≤ 8 → numF a n a b = beL a n ((rowL 8 b).drop a)
  | 0, n, b, _ => by rw [numF, beL]
  | a + 1, n, b, h => by
    rw [numF, beL]
    split
    · rfl
    · rw [Nat.add_sub_cancel, numF_beL a _ _ (by omega), rowL_drop_upd b a _ (by omega)]
theorem numF_be (m : Nat) : numF 8 m 8 dz = beL 8 m [] := by
  rw [numF_beL 8 m dz (by omega), List.drop_of_length_le (by rw [rowL_len]; omega)]
def rowX : Nat → List ByteArray → Bs
  | _, [] => []
  | k, x :: l => fldB ⟨(k : Int) + 1, x⟩ ++ rowX (k + 1) l
theorem rowX_step {ls : List ByteArray} {i : Nat} {acc R : Bs} (hR : acc ++ rowX i (ls.drop i) = R) (hi : i < ls.length) : (acc ++ fldB ⟨(i : Int) + 1, ls.getD i ⟨#[]⟩⟩) ++ rowX (i + 1) (ls.drop (i + 1)) = R := by
  have e : ls.drop i = ls.getD i ⟨#[]⟩ :: ls.drop (i + 1) := by
    rw [List.drop_eq_getElem_cons hi, List.getD_eq_getElem?_getD, List.getElem?_eq_getElem hi]; rfl
  rw [e, rowX] at hR
  rw [← hR, List.append_assoc]
theorem mayE_zero {f : Field} {last : Int} (h1 : last < f.tag) (h2 : f.tag ≤ 255) (h3 : f.data.size ≤ 65536) : mayE f last = 0 := by
  unfold mayE
  rw [if_neg (by omega), if_neg (by omega), if_neg (by omega)]
theorem layF_rowX : ∀ (ls : List ByteArray) (k : Nat) (acc : Bs), k + ls.length ≤ 255 → (∀ x, x ∈ ls → x.size ≤ 65536) → layF (rowF k ls) (k : Nat) acc = (acc ++ rowX k ls, 0)
  | [], k, acc, _, _ => by simp [layF, rowF, rowX]
  | x :: l, k, acc, h, hs => by
    simp only [List.length_cons] at h
    rw [rowF, layF, if_pos (mayE_zero (by dsimp only; omega) (by dsimp only; omega) (hs x (by simp))), rowX]
    have := layF_rowX l (k + 1) (acc ++ fldB ⟨(k : Int) + 1, x⟩) (by omega) (fun y hy => hs y (by simp [hy]))
    rw [show (((k + 1 : Nat)) : Int) = (k : Int) + 1 by omega] at this
    rw [this, List.append_assoc]
theorem bytesR_X (ls : List ByteArray) (h : ls.length ≤ 255) (hs : ∀ x, x ∈ ls → x.size ≤ 65536) : bytesR ls = rowX 0 ls := by
  have := layF_rowX ls 0 [] (by omega) hs
  unfold bytesR
  rw [show (0 : Int) = ((0 : Nat) : Int) from rfl, this, List.nil_append]
theorem getD_size {ls : List ByteArray} {m : Nat} (hs : ∀ x, x ∈ ls → x.size ≤ m) (i : Nat) : (ls.getD i ⟨#[]⟩).size ≤ m := by
  rw [List.getD_eq_getElem?_getD]
  cases h : ls[i]? with
  | none => show 0 ≤ m; omega
  | some x => exact hs x (List.mem_of_getElem? h)
theorem refNumber_ok (n : Int) (hl : -9223372036854775808 ≤ n) (hh : n ≤ 9223372036854775807) : CallL Tryd.prog G 114 [.int .i64 n] [] (.tuple #[.string (numS n).1, .int .i64 (numS n).2]) [] := by
  refine walk (fn := Tryd.f114) (nt := 23) rfl rfl rfl rfl ?_
  refine c_seq (c_reg ?_)
  refine r_assign (v := .string ⟨#[]⟩) rfl rfl rfl ?_
  refine r_assign (v := .int .i64 0) rfl rfl rfl ?_
  refine r_doneN (x_then (c_seq (c_seq (c_reg ?_))))
  refine r_move (v := .int .i64 n) rfl rfl rfl ?_
  by_cases h1 : n < 0
  refine r_bin (v := .bool true) (vx := .int .i64 n) (vy := .int .i64 0) rfl rfl rfl rfl (lss_t (by omega)) ?_
  refine r_move (v := .bool true) rfl rfl rfl ?_
  refine r_skip rfl rfl (r_skip rfl rfl ?_)
  refine r_pick (v := .bool true) rfl rfl rfl ?_
  refine r_doneN (x_then (c_true rfl (c_seq (c_reg ?_))))
  refine r_assign (v := .string ⟨#[]⟩) rfl rfl rfl ?_
  refine r_assign (v := .int .i64 1) rfl rfl rfl ?_
  refine r_doneN (x_then (c_ret (x_thenR (x_end ?_))))
  rw [show numS n = (⟨#[]⟩, 1) from if_neg (by omega)]
  exact end_same (v := .tuple #[.string ⟨#[]⟩, .int .i64 1]) rfl rfl rfl (by kernel_rfl) ⟨rfl, rfl, trivial⟩
  refine r_bin (v := .bool false) (vx := .int .i64 n) (vy := .int .i64 0) rfl rfl rfl rfl (lss_f (by omega)) ?_
  refine r_move (v := .bool false) rfl rfl rfl ?_
  refine r_move (v := .int .i64 n) rfl rfl rfl ?_
  by_cases h2 : 4611686018427387903 < n
  refine r_bin (v := .bool true) (vx := .int .i64 n) (vy := .int .i64 4611686018427387903) rfl rfl rfl rfl (gtr_t (by omega)) ?_
  refine r_pick (v := .bool true) rfl rfl rfl ?_
  refine r_doneN (x_then (c_true rfl (c_seq (c_reg ?_))))
  refine r_assign (v := .string ⟨#[]⟩) rfl rfl rfl ?_
  refine r_assign (v := .int .i64 1) rfl rfl rfl ?_
  refine r_doneN (x_then (c_ret (x_thenR (x_end ?_))))
  rw [show numS n = (⟨#[]⟩, 1) from if_neg (by omega)]
  exact end_same (v := .tuple #[.string ⟨#[]⟩, .int .i64 1]) rfl rfl rfl (by kernel_rfl) ⟨rfl, rfl, trivial⟩
  refine r_bin (v := .bool false) (vx := .int .i64 n) (vy := .int .i64 4611686018427387903) rfl rfl rfl rfl (gtr_f (by omega)) ?_
  refine r_pick (v := .bool false) rfl rfl rfl ?_
  refine r_doneN (x_then (c_false rfl (c_skip (x_then (c_seq ?_)))))
  obtain ⟨m, rfl⟩ : ∃ x0 : Nat, n = (x0 : Int) := ⟨n.toNat, by omega⟩
  refine c_reg ?_
  refine r_assign (v := .string ⟨#[]⟩) rfl rfl rfl ?_
  refine r_doneN (x_then (c_seq (c_block ?_)))
  refine c_loopN (fun x : Nat × Nat × ByteArray => match x with | (k, a, s) => [.int .i64 (k : Nat), dead, .string ⟨#[]⟩, .int .i64 0, .string s, .int .i64 (m : Nat), .bool false, .bool false, .int .i64 (m : Nat), .bool false, .bool false]) (fun x : Nat × Nat × ByteArray => match x with | (k, a, s) => []) (fun x : Nat × Nat × ByteArray => match x with | (k, a, s) => beL a k (bl s) = beL 8 m [] ∧ k < 256 ^ a ∧ s.size + a ≤ 8 ∧ k ≤ m) (fun x : Nat × Nat × ByteArray => match x with | (k, a, s) => a) (m, 8, ⟨#[]⟩) ⟨rfl, by omega, by show 0 + 8 ≤ 8; omega, by omega⟩ ?_ ?_
  · refine weak_to (n := 0) rfl ?_ (by kernel_rfl) (by kernel_rfl)
    repeat (first | exact trivial | refine ⟨.inl rfl, ?_⟩ | refine ⟨.inr ⟨rfl, rfl⟩, ?_⟩ | refine ⟨.inr ⟨congrArg (Value.int .i64) (by first | omega | (dsimp only; omega)), rfl⟩, ?_⟩)
  rintro ⟨k, a, s⟩ ⟨hR, hk, ha, hkm⟩
  dsimp only at *
  refine c_hole 1 (H' := [hole]) rfl ?_
  refine c_seq (c_seq (c_reg ?_))
  refine r_move (v := .int .i64 (k : Nat)) rfl rfl rfl ?_
  by_cases h3 : 0 < (k : Nat)
  refine r_bin (v := .bool true) (vx := .int .i64 (k : Nat)) (vy := .int .i64 0) rfl rfl rfl rfl (gtr_t (by omega)) ?_
  refine r_doneN (x_then (c_true rfl (c_skip (x_then (c_block (c_seq (c_reg ?_)))))))
  refine r_move (v := .int .i64 (k : Nat)) rfl rfl rfl ?_
  refine r_bin (v := .int .i64 (((k % 256) : Nat) : Int)) (vx := .int .i64 (k : Nat)) (vy := .int .i64 256) rfl rfl rfl rfl (bin_eq (rem_p (by omega) (by omega)) (congrArg (Value.int .i64) (by omega))) ?_
  refine r_conv (w := .int .i64 (((k % 256) : Nat) : Int)) (v := w8 (BitVec.ofInt 8 (((k % 256) : Nat) : Int))) rfl rfl rfl (conv8 rfl rfl rfl) ?_
  refine r_lit (vs := [(0, w8 (BitVec.ofInt 8 (((k % 256) : Nat) : Int)))]) (v := slv 0 0 1 1) (blk := rowB [(BitVec.ofInt 8 (((k % 256) : Nat) : Int))]) (nid := 0) (H' := [rowB [(BitVec.ofInt 8 (((k % 256) : Nat) : Int))]]) rfl rfl rfl (by kernel_rfl) (by kernel_rfl) ?_
  refine r_str (p := slv 0 0 1 1) (v := .string (strOf [(BitVec.ofInt 8 (((k % 256) : Nat) : Int))])) rfl rfl rfl (str_whole rfl rfl rfl rfl rfl (by have := (rfl : _ = 1); omega)) ?_
  refine r_move (v := .string s) rfl rfl rfl ?_
  refine r_bin (v := .string ((strOf [(BitVec.ofInt 8 (((k % 256) : Nat) : Int))]) ++ s)) (vx := .string (strOf [(BitVec.ofInt 8 (((k % 256) : Nat) : Int))])) (vy := .string s) rfl rfl rfl rfl (bin_cat (by simp only [ByteArray.size_append, strOf_size, List.length_cons, List.length_nil]; omega)) ?_
  refine r_assign (v := .string ((strOf [(BitVec.ofInt 8 (((k % 256) : Nat) : Int))]) ++ s)) rfl rfl rfl ?_
  refine r_doneN (x_then (c_reg ?_))
  refine r_move (v := .int .i64 (k : Nat)) rfl rfl rfl ?_
  refine r_bin (v := .int .i64 (((k / 256) : Nat) : Int)) (vx := .int .i64 (k : Nat)) (vy := .int .i64 256) rfl rfl rfl rfl (bin_eq (quo_i (by omega) (by omega) (by omega)) (congrArg (Value.int .i64) (by omega))) ?_
  refine r_assign (v := .int .i64 (((k / 256) : Nat) : Int)) rfl rfl rfl ?_
  refine r_doneN (x_blockN ?_)
  refine x_round ⟨((k / 256), (a - 1), ((strOf [(BitVec.ofInt 8 (((k % 256) : Nat) : Int))]) ++ s)), ⟨(beL_step hR hk (by omega) ha).1, (beL_step hR hk (by omega) ha).2.1, (beL_step hR hk (by omega) ha).2.2, by dsimp only; omega⟩, by show a - 1 < a; have := pow_pos_of hk (by omega); omega, ?_⟩
  refine weak_to (n := 0) rfl ?_ (by kernel_rfl) (by kernel_rfl)
  repeat (first | exact trivial | refine ⟨.inl rfl, ?_⟩ | refine ⟨.inr ⟨rfl, rfl⟩, ?_⟩ | refine ⟨.inr ⟨congrArg (Value.int .i64) (by first | omega | (dsimp only; omega)), rfl⟩, ?_⟩)
  refine r_bin (v := .bool false) (vx := .int .i64 (k : Nat)) (vy := .int .i64 0) rfl rfl rfl rfl (gtr_f (by omega)) ?_
  refine r_doneN (x_then (c_false rfl (c_exit (x_thenE (x_leaveE (x_block rfl (x_then (c_seq (c_reg ?_)))))))))
  refine r_move (v := .string s) rfl rfl rfl ?_
  refine r_assign (v := .string s) rfl rfl rfl ?_
  refine r_assign (v := .int .i64 0) rfl rfl rfl ?_
  refine r_doneN (x_then (c_ret (x_end ?_)))
  have e : numS (m : Nat) = (s, 0) := by
    rw [show numS (m : Nat) = (strOf (numF 8 m 8 dz), 0) from if_pos (by omega), numF_be, ← hR]
    obtain rfl : k = 0 := by omega
    rw [beL_zero, strOf_bl]
  rw [e]
  exact end_same (v := .tuple #[.string s, .int .i64 0]) rfl rfl rfl (by kernel_rfl) ⟨rfl, rfl, trivial⟩
theorem refNum_ok (n : Int) (hl : -9223372036854775808 ≤ n) (hh : n ≤ 9223372036854775807) : CallL Tryd.prog G 102 [.int .i64 n] [] (.string (numS n).1) [] := by
  refine walk (fn := Tryd.f102) (nt := 11) rfl rfl rfl rfl ?_
  refine c_seq (c_reg ?_)
  refine r_assign (v := .string ⟨#[]⟩) rfl rfl rfl ?_
  refine r_doneN (x_then (c_seq (c_reg ?_)))
  refine r_move (v := .int .i64 n) rfl rfl rfl ?_
  refine r_callP (refNumber_ok (G := G) n (by omega) (by omega)) (vals := [.int .i64 n]) (res' := .tuple #[.string ((numS n).1), .int .i64 (((numS n).2))]) rfl rfl rfl rfl rfl (by kernel_rfl) ?_
  refine r_move (v := .tuple #[.string ((numS n).1), .int .i64 (((numS n).2))]) rfl rfl rfl ?_
  refine r_extract (vs := #[.string ((numS n).1), .int .i64 (((numS n).2))]) (v := .string ((numS n).1)) rfl rfl rfl rfl ?_
  refine r_extract (vs := #[.string ((numS n).1), .int .i64 (((numS n).2))]) (v := .int .i64 (((numS n).2))) rfl rfl rfl rfl ?_
  refine r_assign (v := .string ((numS n).1)) rfl rfl rfl ?_
  refine r_assign (v := .int .i64 (((numS n).2))) rfl rfl rfl ?_
  refine r_doneN (x_then (c_seq (c_reg ?_)))
  refine r_move (v := .string ((numS n).1)) rfl rfl rfl ?_
  refine r_assign (v := .string ((numS n).1)) rfl rfl rfl ?_
  refine r_doneN (x_then (c_ret (x_end ?_)))
  exact end_same (v := .string ((numS n).1)) rfl rfl rfl (by kernel_rfl) rfl
theorem refFld_ok (k : Int) (s : ByteArray) (hs : s.size ≤ 65536) : CallL Tryd.prog G 113 [.int .i64 k, .string s] [] (slv 0 0 (s.size + 4) (s.size + 4)) [rowB (fldB ⟨k, s⟩)] := by
  refine walk (fn := Tryd.f113) (nt := 24) rfl rfl rfl rfl ?_
  refine c_hole 1 (H' := [hole]) rfl ?_
  refine c_seq (c_reg ?_)
  refine r_assign (v := .slice none 0 0) rfl rfl rfl ?_
  refine r_doneN (x_then (c_seq (c_reg ?_)))
  refine r_move (v := .string s) rfl rfl rfl ?_
  refine r_len (p := .string s) (v := .int .i64 (s.size : Nat)) rfl rfl rfl rfl ?_
  refine r_assign (v := .int .i64 (s.size : Nat)) rfl rfl rfl ?_
  refine r_doneN (x_then (c_seq (c_reg ?_)))
  refine r_move (v := .int .i64 k) rfl rfl rfl ?_
  refine r_conv (w := .int .i64 k) (v := w8 (BitVec.ofInt 8 k)) rfl rfl rfl (conv8 rfl rfl rfl) ?_
  refine r_move (v := .int .i64 (s.size : Nat)) rfl rfl rfl ?_
  refine r_bin (v := .int .i64 (((s.size / 65536) : Nat) : Int)) (vx := .int .i64 (s.size : Nat)) (vy := .int .i64 65536) rfl rfl rfl rfl (bin_eq (quo_i (by omega) (by omega) (by omega)) (congrArg (Value.int .i64) (by omega))) ?_
  refine r_conv (w := .int .i64 (((s.size / 65536) : Nat) : Int)) (v := w8 (BitVec.ofInt 8 (((s.size / 65536) : Nat) : Int))) rfl rfl rfl (conv8 rfl rfl rfl) ?_
  refine r_move (v := .int .i64 (s.size : Nat)) rfl rfl rfl ?_
  refine r_bin (v := .int .i64 (((s.size / 256) : Nat) : Int)) (vx := .int .i64 (s.size : Nat)) (vy := .int .i64 256) rfl rfl rfl rfl (bin_eq (quo_i (by omega) (by omega) (by omega)) (congrArg (Value.int .i64) (by omega))) ?_
  refine r_conv (w := .int .i64 (((s.size / 256) : Nat) : Int)) (v := w8 (BitVec.ofInt 8 (((s.size / 256) : Nat) : Int))) rfl rfl rfl (conv8 rfl rfl rfl) ?_
  refine r_move (v := .int .i64 (s.size : Nat)) rfl rfl rfl ?_
  refine r_conv (w := .int .i64 (s.size : Nat)) (v := w8 (BitVec.ofInt 8 (s.size : Nat))) rfl rfl rfl (conv8 rfl rfl rfl) ?_
  refine r_lit (vs := [(0, w8 (BitVec.ofInt 8 k)), (1, w8 (BitVec.ofInt 8 (((s.size / 65536) : Nat) : Int))), (2, w8 (BitVec.ofInt 8 (((s.size / 256) : Nat) : Int))), (3, w8 (BitVec.ofInt 8 (s.size : Nat)))]) (v := slv 0 0 4 4) (blk := rowB [(BitVec.ofInt 8 k), (BitVec.ofInt 8 (((s.size / 65536) : Nat) : Int)), (BitVec.ofInt 8 (((s.size / 256) : Nat) : Int)), (BitVec.ofInt 8 (s.size : Nat))]) (nid := 0) (H' := [rowB [(BitVec.ofInt 8 k), (BitVec.ofInt 8 (((s.size / 65536) : Nat) : Int)), (BitVec.ofInt 8 (((s.size / 256) : Nat) : Int)), (BitVec.ofInt 8 (s.size : Nat))]]) rfl rfl rfl (by kernel_rfl) (by kernel_rfl) ?_
  refine r_assign (v := slv 0 0 4 4) rfl rfl rfl ?_
  refine r_doneN (x_then (c_seq (c_reg ?_)))
  refine r_move (v := slv 0 0 4 4) rfl rfl rfl ?_
  refine r_move (v := .string s) rfl rfl rfl ?_
  have hl2 : ([(BitVec.ofInt 8 k), (BitVec.ofInt 8 (((s.size / 65536) : Nat) : Int)), (BitVec.ofInt 8 (((s.size / 256) : Nat) : Int)), (BitVec.ofInt 8 (s.size : Nat))] ++ (bl s)).length = s.size + 4 := by have := (rfl : _ = 4); have := (bl_len s); first | (rw [List.length_append]; omega) | (simp; omega) | simp
  refine r_append (p := slv 0 0 4 4) (q := .string s) (v := slv 0 0 (s.size + 4) (s.size + 4)) (b := 0) (blk := rowB ([(BitVec.ofInt 8 k), (BitVec.ofInt 8 (((s.size / 65536) : Nat) : Int)), (BitVec.ofInt 8 (((s.size / 256) : Nat) : Int)), (BitVec.ofInt 8 (s.size : Nat))] ++ (bl s))) (H' := [rowB ([(BitVec.ofInt 8 k), (BitVec.ofInt 8 (((s.size / 65536) : Nat) : Int)), (BitVec.ofInt 8 (((s.size / 256) : Nat) : Int)), (BitVec.ofInt 8 (s.size : Nat))] ++ (bl s))]) rfl rfl rfl (.inr rfl) rfl rfl (appD_row (by_ := 1) (n' := s.size + 4) rfl rfl (rfl : srcA _ 1 (.string _) = some (_, bytesV _)) (bytesV_bl _) rfl (by have := (rfl : _ = 4); omega) (by omega) (by decide) (by omega)) rfl (by kernel_rfl) ?_
  refine r_assign (v := slv 0 0 (s.size + 4) (s.size + 4)) rfl rfl rfl ?_
  refine r_doneN (x_then (c_seq (c_reg ?_)))
  refine r_move (v := slv 0 0 (s.size + 4) (s.size + 4)) rfl rfl rfl ?_
  refine r_assign (v := slv 0 0 (s.size + 4) (s.size + 4)) rfl rfl rfl ?_
  refine r_doneN (x_then (c_ret (x_end ?_)))
  exact end_map [0] (v := slv 0 0 (s.size + 4) (s.size + 4)) rfl (by kernel_rfl) rfl rfl (by decide) (by simp [keptB, rowB]) ⟨rfl, rfl, rfl, by first | omega | exact Nat.le_refl _ | exact Nat.zero_le _ | (dsimp only; omega), by first | omega | exact Nat.le_refl _ | exact Nat.zero_le _ | (dsimp only; omega)⟩
theorem refRow_ok (ls : List ByteArray) (n c : Nat) (hn : ls.length = n) (hc : n ≤ c) (hb : n ≤ 255) (hs : ∀ x, x ∈ ls → x.size ≤ 65536) : CallL Tryd.prog G 101 [slv 0 0 n c] [strB ls] (slv 1 0 (bytesR ls).length (bytesR ls).length) [strB ls, rowB (bytesR ls)] := by
  refine walk (fn := Tryd.f101) (nt := 23) rfl rfl rfl rfl ?_
  refine c_hole 1 (H' := [strB ls, hole]) rfl ?_
  refine c_seq (c_reg ?_)
  refine r_assign (v := .slice none 0 0) rfl rfl rfl ?_
  refine r_doneN (x_then (c_seq (c_reg ?_)))
  refine r_assign (v := .slice none 0 0) rfl rfl rfl ?_
  refine r_doneN (x_then (c_seq (c_seq ?_)))
  refine c_weak (Weak.nilTmp (i := 3) (b := 1) true 1 rfl (by decide) rfl) ?_
  refine c_reg ?_
  refine r_assign (v := .int .i64 0) rfl rfl rfl ?_
  refine r_doneN (x_then (c_block ?_))
  refine c_loopN (fun x : Nat × Bs => match x with | (i, acc) => [slv 0 0 n c, dead, .slice none 0 0, slv 1 0 acc.length acc.length, .int .i64 (i : Nat)]) (fun x : Nat × Bs => match x with | (i, acc) => [strB ls, rowB acc]) (fun x : Nat × Bs => match x with | (i, acc) => acc ++ rowX i (ls.drop i) = rowX 0 ls ∧ i ≤ n ∧ acc.length ≤ i * 65540) (fun x : Nat × Bs => match x with | (i, acc) => n - i) (0, []) ⟨rfl, by omega, by simp⟩ ?_ ?_
  · refine weak_to (n := 2) rfl ?_ (by kernel_rfl) (by kernel_rfl)
    repeat (first | exact trivial | refine ⟨.inl rfl, ?_⟩ | refine ⟨.inr ⟨rfl, rfl⟩, ?_⟩ | refine ⟨.inr ⟨congrArg (Value.int .i64) (by first | omega | (dsimp only; omega)), rfl⟩, ?_⟩)
  rintro ⟨i, acc⟩ ⟨hR, hi, ha⟩
  dsimp only at *
  refine c_hole 1 (H' := [strB ls, rowB acc, hole]) rfl ?_
  have ha2 : acc.length ≤ 65540000 := by omega
  refine c_seq (c_seq (c_reg ?_))
  refine r_move (v := .int .i64 (i : Nat)) rfl rfl rfl ?_
  refine r_move (v := slv 0 0 n c) rfl rfl rfl ?_
  refine r_len (p := slv 0 0 n c) (v := .int .i64 (n : Nat)) rfl rfl rfl rfl ?_
  by_cases h1 : (i : Nat) < (n : Nat)
  refine r_bin (v := .bool true) (vx := .int .i64 (i : Nat)) (vy := .int .i64 (n : Nat)) rfl rfl rfl rfl (lss_t (by omega)) ?_
  refine r_doneN (x_then (c_true rfl (c_skip (x_then (c_seq (c_block (c_seq ?_)))))))
  have hsz : (ls.getD i ⟨#[]⟩).size ≤ 65536 := getD_size hs i
  refine c_reg ?_
  refine r_move (v := .int .i64 (i : Nat)) rfl rfl rfl ?_
  refine r_bin (v := .int .i64 ((i : Nat) + 1)) (vx := .int .i64 (i : Nat)) (vy := .int .i64 1) rfl rfl rfl rfl (bin_add (by omega) (by omega) (by omega)) ?_
  refine r_move (v := slv 0 0 n c) rfl rfl rfl ?_
  refine r_move (v := .int .i64 (i : Nat)) rfl rfl rfl ?_
  refine r_idxS (b := 0) (o := 0) (j := i) (m := n) (c := c) (sz := 1) (i := (i : Nat)) (k := .i64) rfl rfl rfl rfl rfl (by omega) (by omega) (by omega) ?_
  refine r_load (p := pt 0 i) (v := .string (ls.getD i ⟨#[]⟩)) rfl rfl rfl (load_tx rfl rfl rfl (by have := hn; omega)) ?_
  refine r_callN (e := []) (nid := 2) (refFld_ok (G := G) ((i : Nat) + 1) (ls.getD i ⟨#[]⟩) (by omega)) (vals := [.int .i64 ((i : Nat) + 1), .string (ls.getD i ⟨#[]⟩)]) (v := slv 2 0 (((ls.getD i ⟨#[]⟩).size) + 4) (((ls.getD i ⟨#[]⟩).size) + 4)) (H' := [strB ls, rowB acc, rowB (fldB ⟨(i : Nat) + 1, (ls.getD i ⟨#[]⟩)⟩)]) rfl rfl rfl rfl rfl rfl rfl ⟨⟨rfl, rfl, trivial⟩, trivial, rfl, rfl, rfl⟩ (by kernel_rfl) (by kernel_rfl) ?_
  refine r_assign (v := slv 2 0 (((ls.getD i ⟨#[]⟩).size) + 4) (((ls.getD i ⟨#[]⟩).size) + 4)) rfl rfl rfl ?_
  refine r_doneN (x_then (c_reg ?_))
  refine r_move (v := slv 1 0 acc.length acc.length) rfl rfl rfl ?_
  refine r_move (v := slv 2 0 (((ls.getD i ⟨#[]⟩).size) + 4) (((ls.getD i ⟨#[]⟩).size) + 4)) rfl rfl rfl ?_
  have hl2 : (acc ++ (fldB ⟨(i : Nat) + 1, (ls.getD i ⟨#[]⟩)⟩)).length = acc.length + ((ls.getD i ⟨#[]⟩).size) + 4 := by have := (fldB_len' ((i : Nat) + 1) (ls.getD i ⟨#[]⟩)); first | (rw [List.length_append]; omega) | (simp; omega) | simp
  refine r_append (p := slv 1 0 acc.length acc.length) (q := slv 2 0 (((ls.getD i ⟨#[]⟩).size) + 4) (((ls.getD i ⟨#[]⟩).size) + 4)) (v := slv 1 0 ((acc ++ (fldB ⟨(i : Nat) + 1, (ls.getD i ⟨#[]⟩)⟩)).length) ((acc ++ (fldB ⟨(i : Nat) + 1, (ls.getD i ⟨#[]⟩)⟩)).length)) (b := 1) (blk := rowB (acc ++ (fldB ⟨(i : Nat) + 1, (ls.getD i ⟨#[]⟩)⟩))) (H' := [strB ls, rowB (acc ++ (fldB ⟨(i : Nat) + 1, (ls.getD i ⟨#[]⟩)⟩)), rowB (fldB ⟨(i : Nat) + 1, (ls.getD i ⟨#[]⟩)⟩)]) rfl rfl rfl (.inl ⟨_, rfl⟩) rfl rfl (appD_row (by_ := 1) (n' := ((acc ++ (fldB ⟨(i : Nat) + 1, (ls.getD i ⟨#[]⟩)⟩)).length)) rfl rfl (srcA_byW rfl rfl (by have := (fldB_len' ((i : Nat) + 1) (ls.getD i ⟨#[]⟩)); omega)) rfl rfl (by omega) (by omega) (by decide) (by omega)) rfl (by kernel_rfl) ?_
  refine r_assign (v := slv 1 0 ((acc ++ (fldB ⟨(i : Nat) + 1, (ls.getD i ⟨#[]⟩)⟩)).length) ((acc ++ (fldB ⟨(i : Nat) + 1, (ls.getD i ⟨#[]⟩)⟩)).length)) rfl rfl rfl ?_
  refine r_doneN (x_blockN (x_then (c_reg ?_)))
  refine r_move (v := .int .i64 (i : Nat)) rfl rfl rfl ?_
  refine r_bin (v := .int .i64 ((i : Nat) + 1)) (vx := .int .i64 (i : Nat)) (vy := .int .i64 1) rfl rfl rfl rfl (bin_add (by omega) (by omega) (by omega)) ?_
  refine r_assign (v := .int .i64 ((i : Nat) + 1)) rfl rfl rfl ?_
  refine r_doneN ?_
  refine x_round ⟨((i + 1), (acc ++ (fldB ⟨(i : Nat) + 1, (ls.getD i ⟨#[]⟩)⟩))), ⟨rowX_step hR (by omega), by omega, by rw [List.length_append, fldB_len]; dsimp only; omega⟩, by show n - (i + 1) < n - i; omega, ?_⟩
  refine weak_to (n := 2) rfl ?_ (by kernel_rfl) (by kernel_rfl)
  repeat (first | exact trivial | refine ⟨.inl rfl, ?_⟩ | refine ⟨.inr ⟨rfl, rfl⟩, ?_⟩ | refine ⟨.inr ⟨congrArg (Value.int .i64) (by first | omega | (dsimp only; omega)), rfl⟩, ?_⟩)
  refine r_bin (v := .bool false) (vx := .int .i64 (i : Nat)) (vy := .int .i64 (n : Nat)) rfl rfl rfl rfl (lss_f (by omega)) ?_
  refine r_doneN (x_then (c_false rfl (c_exit (x_thenE (x_leaveE (x_block rfl (x_then (c_seq (c_reg ?_)))))))))
  refine r_move (v := slv 1 0 acc.length acc.length) rfl rfl rfl ?_
  refine r_assign (v := slv 1 0 acc.length acc.length) rfl rfl rfl ?_
  refine r_doneN (x_then (c_ret (x_end ?_)))
  rw [show bytesR ls = acc from by rw [bytesR_X ls (by omega) hs, ← hR, List.drop_of_length_le (by omega)]; simp [rowX]]
  exact end_map [0, 1] (v := slv 1 0 acc.length acc.length) rfl (by kernel_rfl) rfl rfl (by decide) (by simp [keptB, rowB, strB]) ⟨rfl, rfl, rfl, by first | omega | exact Nat.le_refl _ | exact Nat.zero_le _ | (dsimp only; omega), by first | omega | exact Nat.le_refl _ | exact Nat.zero_le _ | (dsimp only; omega)⟩
theorem refWithin_ok (n low high : Int) : CallL Tryd.prog G 41 [.int .i64 n, .int .i64 low, .int .i64 high] [] (.bool (withinB n low high)) [] := by
  refine walk (fn := Tryd.f41) (nt := 15) rfl rfl rfl rfl ?_
  refine c_seq (c_reg ?_)
  refine r_assign (v := .bool false) rfl rfl rfl ?_
  refine r_doneN (x_then (c_seq (c_reg ?_)))
  refine r_move (v := .int .i64 n) rfl rfl rfl ?_
  refine r_move (v := .int .i64 low) rfl rfl rfl ?_
  by_cases h1 : low ≤ n
  refine r_bin (v := .bool true) (vx := .int .i64 n) (vy := .int .i64 low) rfl rfl rfl rfl (geq_t (by omega)) ?_
  refine r_move (v := .bool true) rfl rfl rfl ?_
  refine r_move (v := .int .i64 n) rfl rfl rfl ?_
  refine r_move (v := .int .i64 high) rfl rfl rfl ?_
  by_cases h2 : n ≤ high
  refine r_bin (v := .bool true) (vx := .int .i64 n) (vy := .int .i64 high) rfl rfl rfl rfl (leq_t (by omega)) ?_
  refine r_pick (v := .bool true) rfl rfl rfl ?_
  refine r_assign (v := .bool true) rfl rfl rfl ?_
  refine r_doneN (x_then (c_ret (x_end ?_)))
  rw [show withinB n low high = true from withinB_t (by omega) (by omega)]
  exact end_same (v := .bool true) rfl rfl rfl (by kernel_rfl) rfl
  refine r_bin (v := .bool false) (vx := .int .i64 n) (vy := .int .i64 high) rfl rfl rfl rfl (leq_f (by omega)) ?_
  refine r_pick (v := .bool false) rfl rfl rfl ?_
  refine r_assign (v := .bool false) rfl rfl rfl ?_
  refine r_doneN (x_then (c_ret (x_end ?_)))
  rw [show withinB n low high = false from withinB_f (by omega)]
  exact end_same (v := .bool false) rfl rfl rfl (by kernel_rfl) rfl
  refine r_bin (v := .bool false) (vx := .int .i64 n) (vy := .int .i64 low) rfl rfl rfl rfl (geq_f (by omega)) ?_
  refine r_move (v := .bool false) rfl rfl rfl ?_
  refine r_skip rfl rfl (r_skip rfl rfl (r_skip rfl rfl ?_))
  refine r_pick (v := .bool false) rfl rfl rfl ?_
  refine r_assign (v := .bool false) rfl rfl rfl ?_
  refine r_doneN (x_then (c_ret (x_end ?_)))
  rw [show withinB n low high = false from withinB_f (by omega)]
  exact end_same (v := .bool false) rfl rfl rfl (by kernel_rfl) rfl
theorem refRight_ok (h : Head) : CallL Tryd.prog G 22 [headV h] [] (.bool (decide (rightH h))) [] := by
  refine walk (fn := Tryd.f22) (nt := 21) rfl rfl rfl rfl ?_
  refine c_hole 1 (H' := [hole]) rfl ?_
  refine c_seq (c_reg ?_)
  refine r_box (v := headV h) (b := bxB 36 (headC h)) (nid := 0) (H' := [bxB 36 (headC h)]) rfl rfl rfl (by kernel_rfl) (by kernel_rfl) ?_
  refine r_assign (v := .bool false) rfl rfl rfl ?_
  refine r_doneN (x_then (c_seq (c_reg ?_)))
  refine r_fieldAddr (b := 0) (o := 0) (n := 0) (o' := 0) rfl rfl rfl rfl rfl ?_
  refine r_load (p := pt 0 0) (v := .int .i64 h.region) rfl rfl rfl (by kernel_rfl) ?_
  by_cases h1 : 1 ≤ h.region
  by_cases h2 : h.region ≤ 5
  refine r_callP ((refWithin_ok (G := G) h.region 1 5).res (congrArg Value.bool (withinB_t (by omega) (by omega)))) (vals := [.int .i64 h.region, .int .i64 1, .int .i64 5]) (res' := .bool true) rfl rfl rfl rfl rfl rfl ?_
  refine r_move (v := .bool true) rfl rfl rfl ?_
  refine r_fieldAddr (b := 0) (o := 0) (n := 1) (o' := 1) rfl rfl rfl rfl rfl ?_
  refine r_load (p := pt 0 1) (v := .int .i64 h.epoch) rfl rfl rfl (by kernel_rfl) ?_
  by_cases h3 : 1 ≤ h.epoch
  by_cases h4 : h.epoch ≤ 900000000
  refine r_callP ((refWithin_ok (G := G) h.epoch 1 900000000).res (congrArg Value.bool (withinB_t (by omega) (by omega)))) (vals := [.int .i64 h.epoch, .int .i64 1, .int .i64 900000000]) (res' := .bool true) rfl rfl rfl rfl rfl rfl ?_
  refine r_pick (v := .bool true) rfl rfl rfl ?_
  refine r_move (v := .bool true) rfl rfl rfl ?_
  refine r_fieldAddr (b := 0) (o := 0) (n := 2) (o' := 2) rfl rfl rfl rfl rfl ?_
  refine r_load (p := pt 0 2) (v := .int .i64 h.size) rfl rfl rfl (by kernel_rfl) ?_
  by_cases h5 : 0 ≤ h.size
  by_cases h6 : h.size ≤ 100000
  refine r_callP ((refWithin_ok (G := G) h.size 0 100000).res (congrArg Value.bool (withinB_t (by omega) (by omega)))) (vals := [.int .i64 h.size, .int .i64 0, .int .i64 100000]) (res' := .bool true) rfl rfl rfl rfl rfl rfl ?_
  refine r_pick (v := .bool true) rfl rfl rfl ?_
  refine r_move (v := .bool true) rfl rfl rfl ?_
  refine r_fieldAddr (b := 0) (o := 0) (n := 35) (o' := 35) rfl rfl rfl rfl rfl ?_
  refine r_load (p := pt 0 35) (v := .int .i64 h.tick) rfl rfl rfl (by kernel_rfl) ?_
  by_cases h7 : 0 ≤ h.tick
  by_cases h8 : h.tick ≤ 900000000
  refine r_callP ((refWithin_ok (G := G) h.tick 0 900000000).res (congrArg Value.bool (withinB_t (by omega) (by omega)))) (vals := [.int .i64 h.tick, .int .i64 0, .int .i64 900000000]) (res' := .bool true) rfl rfl rfl rfl rfl rfl ?_
  refine r_pick (v := .bool true) rfl rfl rfl ?_
  refine r_assign (v := .bool true) rfl rfl rfl ?_
  refine r_doneN (x_then (c_ret (x_end ?_)))
  rw [show decide (rightH h) = true from decide_eq_true (by unfold rightH; omega)]
  exact end_same (v := .bool true) rfl rfl rfl (by kernel_rfl) rfl
  refine r_callP ((refWithin_ok (G := G) h.tick 0 900000000).res (congrArg Value.bool (withinB_f (by omega)))) (vals := [.int .i64 h.tick, .int .i64 0, .int .i64 900000000]) (res' := .bool false) rfl rfl rfl rfl rfl rfl ?_
  refine r_pick (v := .bool false) rfl rfl rfl ?_
  refine r_assign (v := .bool false) rfl rfl rfl ?_
  refine r_doneN (x_then (c_ret (x_end ?_)))
  rw [show decide (rightH h) = false from decide_eq_false (by unfold rightH; omega)]
  exact end_same (v := .bool false) rfl rfl rfl (by kernel_rfl) rfl
  refine r_callP ((refWithin_ok (G := G) h.tick 0 900000000).res (congrArg Value.bool (withinB_f (by omega)))) (vals := [.int .i64 h.tick, .int .i64 0, .int .i64 900000000]) (res' := .bool false) rfl rfl rfl rfl rfl rfl ?_
  refine r_pick (v := .bool false) rfl rfl rfl ?_
  refine r_assign (v := .bool false) rfl rfl rfl ?_
  refine r_doneN (x_then (c_ret (x_end ?_)))
  rw [show decide (rightH h) = false from decide_eq_false (by unfold rightH; omega)]
  exact end_same (v := .bool false) rfl rfl rfl (by kernel_rfl) rfl
  refine r_callP ((refWithin_ok (G := G) h.size 0 100000).res (congrArg Value.bool (withinB_f (by omega)))) (vals := [.int .i64 h.size, .int .i64 0, .int .i64 100000]) (res' := .bool false) rfl rfl rfl rfl rfl rfl ?_
  refine r_pick (v := .bool false) rfl rfl rfl ?_
  refine r_move (v := .bool false) rfl rfl rfl ?_
  refine r_skip rfl rfl (r_skip rfl rfl (r_skip rfl rfl ?_))
  refine r_pick (v := .bool false) rfl rfl rfl ?_
  refine r_assign (v := .bool false) rfl rfl rfl ?_
  refine r_doneN (x_then (c_ret (x_end ?_)))
  rw [show decide (rightH h) = false from decide_eq_false (by unfold rightH; omega)]
  exact end_same (v := .bool false) rfl rfl rfl (by kernel_rfl) rfl
  refine r_callP ((refWithin_ok (G := G) h.size 0 100000).res (congrArg Value.bool (withinB_f (by omega)))) (vals := [.int .i64 h.size, .int .i64 0, .int .i64 100000]) (res' := .bool false) rfl rfl rfl rfl rfl rfl ?_
  refine r_pick (v := .bool false) rfl rfl rfl ?_
  refine r_move (v := .bool false) rfl rfl rfl ?_
  refine r_skip rfl rfl (r_skip rfl rfl (r_skip rfl rfl ?_))
  refine r_pick (v := .bool false) rfl rfl rfl ?_
  refine r_assign (v := .bool false) rfl rfl rfl ?_
  refine r_doneN (x_then (c_ret (x_end ?_)))
  rw [show decide (rightH h) = false from decide_eq_false (by unfold rightH; omega)]
  exact end_same (v := .bool false) rfl rfl rfl (by kernel_rfl) rfl
  refine r_callP ((refWithin_ok (G := G) h.epoch 1 900000000).res (congrArg Value.bool (withinB_f (by omega)))) (vals := [.int .i64 h.epoch, .int .i64 1, .int .i64 900000000]) (res' := .bool false) rfl rfl rfl rfl rfl rfl ?_
  refine r_pick (v := .bool false) rfl rfl rfl ?_
  refine r_move (v := .bool false) rfl rfl rfl ?_
  refine r_skip rfl rfl (r_skip rfl rfl (r_skip rfl rfl ?_))
  refine r_pick (v := .bool false) rfl rfl rfl ?_
  refine r_move (v := .bool false) rfl rfl rfl ?_
  refine r_skip rfl rfl (r_skip rfl rfl (r_skip rfl rfl ?_))
  refine r_pick (v := .bool false) rfl rfl rfl ?_
  refine r_assign (v := .bool false) rfl rfl rfl ?_
  refine r_doneN (x_then (c_ret (x_end ?_)))
  rw [show decide (rightH h) = false from decide_eq_false (by unfold rightH; omega)]
  exact end_same (v := .bool false) rfl rfl rfl (by kernel_rfl) rfl
  refine r_callP ((refWithin_ok (G := G) h.epoch 1 900000000).res (congrArg Value.bool (withinB_f (by omega)))) (vals := [.int .i64 h.epoch, .int .i64 1, .int .i64 900000000]) (res' := .bool false) rfl rfl rfl rfl rfl rfl ?_
  refine r_pick (v := .bool false) rfl rfl rfl ?_
  refine r_move (v := .bool false) rfl rfl rfl ?_
  refine r_skip rfl rfl (r_skip rfl rfl (r_skip rfl rfl ?_))
  refine r_pick (v := .bool false) rfl rfl rfl ?_
  refine r_move (v := .bool false) rfl rfl rfl ?_
  refine r_skip rfl rfl (r_skip rfl rfl (r_skip rfl rfl ?_))
  refine r_pick (v := .bool false) rfl rfl rfl ?_
  refine r_assign (v := .bool false) rfl rfl rfl ?_
  refine r_doneN (x_then (c_ret (x_end ?_)))
  rw [show decide (rightH h) = false from decide_eq_false (by unfold rightH; omega)]
  exact end_same (v := .bool false) rfl rfl rfl (by kernel_rfl) rfl
  refine r_callP ((refWithin_ok (G := G) h.region 1 5).res (congrArg Value.bool (withinB_f (by omega)))) (vals := [.int .i64 h.region, .int .i64 1, .int .i64 5]) (res' := .bool false) rfl rfl rfl rfl rfl rfl ?_
  refine r_move (v := .bool false) rfl rfl rfl ?_
  refine r_skip rfl rfl (r_skip rfl rfl (r_skip rfl rfl ?_))
  refine r_pick (v := .bool false) rfl rfl rfl ?_
  refine r_move (v := .bool false) rfl rfl rfl ?_
  refine r_skip rfl rfl (r_skip rfl rfl (r_skip rfl rfl ?_))
  refine r_pick (v := .bool false) rfl rfl rfl ?_
  refine r_move (v := .bool false) rfl rfl rfl ?_
  refine r_skip rfl rfl (r_skip rfl rfl (r_skip rfl rfl ?_))
  refine r_pick (v := .bool false) rfl rfl rfl ?_
  refine r_assign (v := .bool false) rfl rfl rfl ?_
  refine r_doneN (x_then (c_ret (x_end ?_)))
  rw [show decide (rightH h) = false from decide_eq_false (by unfold rightH; omega)]
  exact end_same (v := .bool false) rfl rfl rfl (by kernel_rfl) rfl
  refine r_callP ((refWithin_ok (G := G) h.region 1 5).res (congrArg Value.bool (withinB_f (by omega)))) (vals := [.int .i64 h.region, .int .i64 1, .int .i64 5]) (res' := .bool false) rfl rfl rfl rfl rfl rfl ?_
  refine r_move (v := .bool false) rfl rfl rfl ?_
  refine r_skip rfl rfl (r_skip rfl rfl (r_skip rfl rfl ?_))
  refine r_pick (v := .bool false) rfl rfl rfl ?_
  refine r_move (v := .bool false) rfl rfl rfl ?_
  refine r_skip rfl rfl (r_skip rfl rfl (r_skip rfl rfl ?_))
  refine r_pick (v := .bool false) rfl rfl rfl ?_
  refine r_move (v := .bool false) rfl rfl rfl ?_
  refine r_skip rfl rfl (r_skip rfl rfl (r_skip rfl rfl ?_))
  refine r_pick (v := .bool false) rfl rfl rfl ?_
  refine r_assign (v := .bool false) rfl rfl rfl ?_
  refine r_doneN (x_then (c_ret (x_end ?_)))
  rw [show decide (rightH h) = false from decide_eq_false (by unfold rightH; omega)]
  exact end_same (v := .bool false) rfl rfl rfl (by kernel_rfl) rfl
end Go.Flat
