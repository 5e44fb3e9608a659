/- Walks and plain laws: what each theorem says, within the bounds that it names. -/
import Derived.Test.YthfklplpfbmkgaaDoorH15
set_option linter.unusedVariables false
set_option linter.unusedSimpArgs false
set_option maxRecDepth 20000
namespace Go.Flat
open Go.Proofs
variable {G : Glob}
theorem Read_ok' (l : Bs) (n c : Nat) (hn : l.length = n) (hc : n ≤ c) (hb : n ≤ 1099511627776) : CallL Tryd.prog G 55 [slv 0 0 n c] [rdB l] (.tuple #[slv 1 0 (readF l).1.length (readF l).1.length, .int .i64 (readF l).2]) [rdB l, rwB cFd (readF l).1] := by
  subst hn; exact Read_ok (G := G) l c hc hb
theorem readL_len : ∀ (f : Nat) (l : Bs) (last : Int) (acc : List Field), (readL f l last acc).1.length ≤ acc.length + l.length
  | 0, l, last, acc => by simp [readL]
  | f + 1, l, last, acc => by
    rw [readL]
    split
    · simp
    · split
      · simp
      · split
        · simp
        · rename_i h0 h1 h2
          have h3 := getF_pos (l := l) (n := l.length) (by omega)
          have := readL_len f (l.drop (getF l l.length).2.1.toNat) (getF l l.length).1.tag (acc ++ [(getF l l.length).1])
          rw [List.length_append, List.length_drop] at this
          simp only [List.length_cons, List.length_nil] at this
          omega
theorem readF_len (l : Bs) : (readF l).1.length ≤ l.length := by
  have := readL_len (l.length + 1) l 0 []
  simpa [readF] using this
def ofL : List Field → Nat → Bool → List ByteArray → Bool × List ByteArray
  | [], _, ok, acc => (ok, acc)
  | f :: fs, i, ok, acc => ofL fs (i + 1) (ok && decide (f.tag = (i : Int) + 1)) (acc ++ [f.data])
def ofF (l : Bs) : Bool × List ByteArray := ofL (readF l).1 0 (decide ((readF l).2 = 0)) []
theorem ofL_step {fs : List Field} {i : Nat} {ok ok' : Bool} {acc : List ByteArray} {R : Bool × List ByteArray} (hR : ofL (fs.drop i) i ok acc = R) (hi : i < fs.length) (h : (ok && decide ((fs.getD i default).tag = (i : Int) + 1)) = ok') : ofL (fs.drop (i + 1)) (i + 1) ok' (acc ++ [(fs.getD i default).data]) = R := by
  subst h
  rw [drop_getD hi, ofL] at hR
  exact hR
theorem of_ok (l : Bs) (c : Nat) (ok0 : Bool) (hc : l.length ≤ c) (hb : l.length ≤ 1099511627776) : CallL Tryd.prog G 37 [slv 0 0 l.length c, pt 1 0] [rdB l, bxB 1 ([.bool ok0])] (pt 2 0) [rdB l, bxB 1 [.bool (ofF l).1], rfB (slv 3 0 (ofF l).2.length (ofF l).2.length), txB (ofF l).2] := by
  refine walk (fn := Tryd.f37) (nt := 44) rfl rfl rfl rfl ?_
  refine c_hole 3 (H' := [rdB l, bxB 1 ([.bool ok0]), hole, hole, hole]) rfl ?_
  refine c_seq (c_reg ?_)
  refine r_assign (v := .pointer none) rfl rfl rfl ?_
  refine r_doneN (x_then (c_seq (c_reg ?_)))
  refine r_move (v := slv 0 0 l.length c) rfl rfl rfl ?_
  refine r_callN (e := [some (0, 0)]) (nid := 4) (Read_ok' (G := G) l l.length c (rfl : l.length = l.length) (by omega) (by omega)) (vals := [slv 0 0 l.length c]) (v := .tuple #[slv 4 0 ((readF l).1.length) ((readF l).1.length), .int .i64 (((readF l).2))]) (H' := [rdB l, bxB 1 ([.bool ok0]), hole, hole, rwB cFd ((readF l).1)]) rfl rfl rfl rfl rfl rfl rfl ⟨⟨⟨rfl, rfl, rfl, by first | omega | exact Nat.le_refl _, by first | omega | exact Nat.le_refl _⟩, trivial⟩, ⟨(emb_rd rfl), trivial⟩, rfl, rfl, rfl⟩ (by kernel_rfl) (by kernel_rfl) ?_
  refine r_move (v := .tuple #[slv 4 0 ((readF l).1.length) ((readF l).1.length), .int .i64 (((readF l).2))]) rfl rfl rfl ?_
  refine r_extract (vs := #[slv 4 0 ((readF l).1.length) ((readF l).1.length), .int .i64 (((readF l).2))]) (v := slv 4 0 ((readF l).1.length) ((readF l).1.length)) rfl rfl rfl rfl ?_
  refine r_extract (vs := #[slv 4 0 ((readF l).1.length) ((readF l).1.length), .int .i64 (((readF l).2))]) (v := .int .i64 (((readF l).2))) rfl rfl rfl rfl ?_
  refine r_assign (v := slv 4 0 ((readF l).1.length) ((readF l).1.length)) rfl rfl rfl ?_
  refine r_assign (v := .int .i64 (((readF l).2))) rfl rfl rfl ?_
  refine r_doneN (x_then (c_seq (c_reg ?_)))
  refine r_move (v := pt 1 0) rfl rfl rfl ?_
  refine r_move (v := .int .i64 (((readF l).2))) rfl rfl rfl ?_
  by_cases h1 : (((readF l).2)) = 0
  refine r_bin (v := .bool true) (vx := .int .i64 (((readF l).2))) (vy := .int .i64 0) rfl rfl rfl rfl (eql_t (by omega)) ?_
  refine r_nilCheck (p := pt 1 0) (v := pt 1 0) rfl rfl rfl rfl ?_
  refine r_store (p := pt 1 0) (v := .bool true) (b := 1) (blk := bxB 1 ([.bool true])) (H' := [rdB l, bxB 1 ([.bool true]), hole, hole, rwB cFd ((readF l).1)]) rfl rfl rfl (by kernel_rfl) (by kernel_rfl) ?_
  refine r_doneN (x_then (c_seq (c_reg ?_)))
  refine r_alloc (b := rfB (.slice none 0 0)) (nid := 2) (H' := [rdB l, bxB 1 ([.bool true]), rfB (.slice none 0 0), hole, rwB cFd ((readF l).1)]) rfl rfl (by kernel_rfl) (by kernel_rfl) ?_
  refine r_doneN (x_then (c_seq (c_seq ?_)))
  have hrl := readF_len l
  refine c_weak (Weak.nilCell (k := 2) (j := 0) (b := 3) true 1 rfl (by decide) rfl (by show 0 < 1; decide) rfl rfl) ?_
  refine c_reg ?_
  refine r_move (v := slv 4 0 ((readF l).1.length) ((readF l).1.length)) rfl rfl rfl ?_
  refine r_len (p := slv 4 0 ((readF l).1.length) ((readF l).1.length)) (v := .int .i64 ((((readF l).1.length) : Nat) : Int)) rfl rfl rfl rfl ?_
  refine r_move (v := .int .i64 0) rfl rfl rfl ?_
  refine r_doneN (x_then (c_block ?_))
  refine c_loopN (fun x : Nat × Bool × (List ByteArray) => match x with | (i, okv, acc) => [slv 0 0 l.length c, pt 1 0, dead, dead, .pointer none, slv 4 0 ((readF l).1.length) ((readF l).1.length), .int .i64 (((readF l).2)), pt 2 0, dead, dead, .tuple #[slv 4 0 ((readF l).1.length) ((readF l).1.length), .int .i64 (((readF l).2))], slv 0 0 l.length c, .tuple #[slv 4 0 ((readF l).1.length) ((readF l).1.length), .int .i64 (((readF l).2))], slv 4 0 ((readF l).1.length) ((readF l).1.length), .int .i64 (((readF l).2)), pt 1 0, .int .i64 (((readF l).2)), .bool true, pt 1 0, slv 4 0 ((readF l).1.length) ((readF l).1.length), .int .i64 ((((readF l).1.length) : Nat) : Int), .int .i64 (i : Nat)]) (fun x : Nat × Bool × (List ByteArray) => match x with | (i, okv, acc) => [rdB l, bxB 1 ([.bool okv]), rfB (slv 3 0 i i), txB acc, rwB cFd ((readF l).1)]) (fun x : Nat × Bool × (List ByteArray) => match x with | (i, okv, acc) => ofL ((readF l).1.drop i) i okv acc = ofL (readF l).1 0 (decide ((readF l).2 = 0)) [] ∧ i ≤ (readF l).1.length ∧ acc.length = i) (fun x : Nat × Bool × (List ByteArray) => match x with | (i, okv, acc) => (readF l).1.length - i) (0, true, []) ⟨by simp [*], by omega, rfl⟩ ?_ ?_
  · refine weak_to (n := 5) rfl ?_ (by kernel_rfl) (by kernel_rfl)
    repeat (first | exact trivial | refine ⟨.inl rfl, ?_⟩ | refine ⟨.inr ⟨rfl, rfl⟩, ?_⟩ | refine ⟨.inr ⟨congrArg (Value.int .i64) (by first | omega | (dsimp only; omega)), rfl⟩, ?_⟩)
  rintro ⟨i, okv, acc⟩ ⟨hR, hi, ha⟩
  dsimp only at *
  refine c_hole 2 (H' := [rdB l, bxB 1 ([.bool okv]), rfB (slv 3 0 i i), txB acc, rwB cFd ((readF l).1), hole, hole]) rfl ?_
  refine c_seq (c_reg ?_)
  by_cases h2 : (i : Nat) < ((((readF l).1.length) : Nat) : Int)
  refine r_bin (v := .bool true) (vx := .int .i64 (i : Nat)) (vy := .int .i64 ((((readF l).1.length) : Nat) : Int)) rfl rfl rfl rfl (lss_t (by omega)) ?_
  refine r_doneN (x_then (c_seq (c_true rfl (c_skip (x_then (c_seq (c_block (c_seq (c_reg ?_)))))))))
  refine r_move (v := .int .i64 (i : Nat)) rfl rfl rfl ?_
  refine r_idxS (b := 4) (o := 0) (j := i * 2) (m := ((readF l).1.length)) (c := ((readF l).1.length)) (sz := 2) (i := (i : Nat)) (k := .i64) rfl rfl rfl rfl rfl (by omega) (by omega) (by omega) ?_
  refine r_load (p := pt 4 (i * 2)) (v := fdV ((((readF l).1)).getD i default)) rfl rfl rfl (load_rw (n := 0) (m := 2) cFd rfl rfl rfl rfl (by omega) (by omega)) ?_
  refine r_alloc (b := bxB 2 (fdC (⟨0, ⟨#[]⟩⟩ : Field))) (nid := 5) (H' := [rdB l, bxB 1 ([.bool okv]), rfB (slv 3 0 i i), txB acc, rwB cFd ((readF l).1), bxB 2 (fdC (⟨0, ⟨#[]⟩⟩ : Field)), hole]) rfl rfl (by kernel_rfl) (by kernel_rfl) ?_
  refine r_assign (v := .int .i64 (i : Nat)) rfl rfl rfl ?_
  refine r_store (p := pt 5 0) (v := fdV ((((readF l).1)).getD i default)) (b := 5) (blk := bxB 2 (fdC ((((readF l).1)).getD i default))) (H' := [rdB l, bxB 1 ([.bool okv]), rfB (slv 3 0 i i), txB acc, rwB cFd ((readF l).1), bxB 2 (fdC ((((readF l).1)).getD i default)), hole]) rfl rfl rfl (by kernel_rfl) (by kernel_rfl) ?_
  refine r_doneN (x_then (c_seq (c_reg ?_)))
  refine r_move (v := pt 1 0) rfl rfl rfl ?_
  refine r_move (v := pt 1 0) rfl rfl rfl ?_
  refine r_nilCheck (p := pt 1 0) (v := pt 1 0) rfl rfl rfl rfl ?_
  refine r_load (p := pt 1 0) (v := .bool okv) rfl rfl rfl (by kernel_rfl) ?_
  refine r_move (v := .bool okv) rfl rfl rfl ?_
  rcases Bool.eq_false_or_eq_true okv with h3 | h3
  refine r_fieldAddr (b := 5) (o := 0) (n := 0) (o' := 0) (by exact congrArg (fun b => some (b == true)) h3) rfl rfl rfl rfl ?_
  refine r_load (p := pt 5 0) (v := .int .i64 ((((((readF l).1)).getD i default).tag))) (by exact congrArg (fun b => some (b == true)) h3) rfl rfl (by kernel_rfl) ?_
  refine r_move (v := .int .i64 (i : Nat)) (by exact congrArg (fun b => some (b == true)) h3) rfl rfl ?_
  refine r_bin (v := .int .i64 ((i : Nat) + 1)) (vx := .int .i64 (i : Nat)) (vy := .int .i64 1) (by exact congrArg (fun b => some (b == true)) h3) rfl rfl rfl (bin_add (by omega) (by omega) (by omega)) ?_
  by_cases h4 : ((((((readF l).1)).getD i default).tag)) = (i : Nat) + 1
  refine r_bin (v := .bool true) (vx := .int .i64 ((((((readF l).1)).getD i default).tag))) (vy := .int .i64 ((i : Nat) + 1)) (by exact congrArg (fun b => some (b == true)) h3) rfl rfl rfl (eql_t (by omega)) ?_
  refine r_pick (v := .bool true) rfl rfl (by show some (if _ then _ else _) = _; rw [h3] <;> rfl) ?_
  refine r_nilCheck (p := pt 1 0) (v := pt 1 0) rfl rfl rfl rfl ?_
  refine r_store (p := pt 1 0) (v := .bool true) (b := 1) (blk := bxB 1 ([.bool true])) (H' := [rdB l, bxB 1 ([.bool true]), rfB (slv 3 0 i i), txB acc, rwB cFd ((readF l).1), bxB 2 (fdC ((((readF l).1)).getD i default)), hole]) rfl rfl rfl (by kernel_rfl) (by kernel_rfl) ?_
  refine r_doneN (x_then (c_reg ?_))
  refine r_load (p := pt 2 0) (v := slv 3 0 i i) rfl rfl rfl rfl ?_
  refine r_fieldAddr (b := 5) (o := 0) (n := 1) (o' := 1) rfl rfl rfl rfl rfl ?_
  refine r_load (p := pt 5 1) (v := .string (((((readF l).1)).getD i default).data)) rfl rfl rfl (by kernel_rfl) ?_
  refine r_lit (vs := [(0, .string (((((readF l).1)).getD i default).data))]) (v := slv 6 0 1 1) (blk := txB [((((readF l).1)).getD i default).data]) (nid := 6) (H' := [rdB l, bxB 1 ([.bool true]), rfB (slv 3 0 i i), txB acc, rwB cFd ((readF l).1), bxB 2 (fdC ((((readF l).1)).getD i default)), txB [((((readF l).1)).getD i default).data]]) rfl rfl rfl (by kernel_rfl) (by kernel_rfl) ?_
  have hl1 : (acc ++ [((((readF l).1)).getD i default).data]).length = i + 1 := by have := ha; have := (rfl : _ = 1); first | (rw [List.length_append]; omega) | (simp; omega) | simp
  refine r_append (p := slv 3 0 i i) (q := slv 6 0 1 1) (v := slv 3 0 (i + 1) (i + 1)) (b := 3) (blk := txB (acc ++ [((((readF l).1)).getD i default).data])) (H' := [rdB l, bxB 1 ([.bool true]), rfB (dead), txB (acc ++ [((((readF l).1)).getD i default).data]), rwB cFd ((readF l).1), bxB 2 (fdC ((((readF l).1)).getD i default)), txB [((((readF l).1)).getD i default).data]]) rfl rfl rfl (.inl ⟨_, rfl⟩) rfl rfl (appD_tx (by_ := 16) (k := 1) (n' := i + 1) (ms := [((((readF l).1)).getD i default).data]) rfl rfl (by kernel_rfl) rfl (by have := ha; omega) (by omega) (by decide) (by omega)) rfl (by kernel_rfl) ?_
  refine r_store (p := pt 2 0) (v := slv 3 0 (i + 1) (i + 1)) (b := 2) (blk := rfB (slv 3 0 (i + 1) (i + 1))) (H' := [rdB l, bxB 1 ([.bool true]), rfB (slv 3 0 (i + 1) (i + 1)), txB (acc ++ [((((readF l).1)).getD i default).data]), rwB cFd ((readF l).1), bxB 2 (fdC ((((readF l).1)).getD i default)), txB [((((readF l).1)).getD i default).data]]) rfl rfl rfl (by kernel_rfl) (by kernel_rfl) ?_
  refine r_doneN (x_blockN (x_then (c_reg ?_)))
  refine r_bin (v := .int .i64 ((i : Nat) + 1)) (vx := .int .i64 (i : Nat)) (vy := .int .i64 1) rfl rfl rfl rfl (bin_add (by omega) (by omega) (by omega)) ?_
  refine r_move (v := .int .i64 ((i : Nat) + 1)) rfl rfl rfl ?_
  refine r_doneN ?_
  refine x_round ⟨((i + 1), true, (acc ++ [((((readF l).1)).getD i default).data])), ⟨ofL_step hR (by omega) (by simp only [*, Bool.true_and, Bool.false_and, eq_self, decide_true, decide_false]), by omega, by rw [List.length_append, ha]; rfl⟩, by show (readF l).1.length - (i + 1) < (readF l).1.length - i; omega, ?_⟩
  refine weak_to (n := 5) rfl ?_ (by kernel_rfl) (by kernel_rfl)
  repeat (first | exact trivial | refine ⟨.inl rfl, ?_⟩ | refine ⟨.inr ⟨rfl, rfl⟩, ?_⟩ | refine ⟨.inr ⟨congrArg (Value.int .i64) (by first | omega | (dsimp only; omega)), rfl⟩, ?_⟩)
  refine r_bin (v := .bool false) (vx := .int .i64 ((((((readF l).1)).getD i default).tag))) (vy := .int .i64 ((i : Nat) + 1)) (by exact congrArg (fun b => some (b == true)) h3) rfl rfl rfl (eql_f (by omega)) ?_
  refine r_pick (v := .bool false) rfl rfl (by show some (if _ then _ else _) = _; rw [h3] <;> rfl) ?_
  refine r_nilCheck (p := pt 1 0) (v := pt 1 0) rfl rfl rfl rfl ?_
  refine r_store (p := pt 1 0) (v := .bool false) (b := 1) (blk := bxB 1 ([.bool false])) (H' := [rdB l, bxB 1 ([.bool false]), rfB (slv 3 0 i i), txB acc, rwB cFd ((readF l).1), bxB 2 (fdC ((((readF l).1)).getD i default)), hole]) rfl rfl rfl (by kernel_rfl) (by kernel_rfl) ?_
  refine r_doneN (x_then (c_reg ?_))
  refine r_load (p := pt 2 0) (v := slv 3 0 i i) rfl rfl rfl rfl ?_
  refine r_fieldAddr (b := 5) (o := 0) (n := 1) (o' := 1) rfl rfl rfl rfl rfl ?_
  refine r_load (p := pt 5 1) (v := .string (((((readF l).1)).getD i default).data)) rfl rfl rfl (by kernel_rfl) ?_
  refine r_lit (vs := [(0, .string (((((readF l).1)).getD i default).data))]) (v := slv 6 0 1 1) (blk := txB [((((readF l).1)).getD i default).data]) (nid := 6) (H' := [rdB l, bxB 1 ([.bool false]), rfB (slv 3 0 i i), txB acc, rwB cFd ((readF l).1), bxB 2 (fdC ((((readF l).1)).getD i default)), txB [((((readF l).1)).getD i default).data]]) rfl rfl rfl (by kernel_rfl) (by kernel_rfl) ?_
  have hl2 : (acc ++ [((((readF l).1)).getD i default).data]).length = i + 1 := by have := ha; have := (rfl : _ = 1); first | (rw [List.length_append]; omega) | (simp; omega) | simp
  refine r_append (p := slv 3 0 i i) (q := slv 6 0 1 1) (v := slv 3 0 (i + 1) (i + 1)) (b := 3) (blk := txB (acc ++ [((((readF l).1)).getD i default).data])) (H' := [rdB l, bxB 1 ([.bool false]), rfB (dead), txB (acc ++ [((((readF l).1)).getD i default).data]), rwB cFd ((readF l).1), bxB 2 (fdC ((((readF l).1)).getD i default)), txB [((((readF l).1)).getD i default).data]]) rfl rfl rfl (.inl ⟨_, rfl⟩) rfl rfl (appD_tx (by_ := 16) (k := 1) (n' := i + 1) (ms := [((((readF l).1)).getD i default).data]) rfl rfl (by kernel_rfl) rfl (by have := ha; omega) (by omega) (by decide) (by omega)) rfl (by kernel_rfl) ?_
  refine r_store (p := pt 2 0) (v := slv 3 0 (i + 1) (i + 1)) (b := 2) (blk := rfB (slv 3 0 (i + 1) (i + 1))) (H' := [rdB l, bxB 1 ([.bool false]), rfB (slv 3 0 (i + 1) (i + 1)), txB (acc ++ [((((readF l).1)).getD i default).data]), rwB cFd ((readF l).1), bxB 2 (fdC ((((readF l).1)).getD i default)), txB [((((readF l).1)).getD i default).data]]) rfl rfl rfl (by kernel_rfl) (by kernel_rfl) ?_
  refine r_doneN (x_blockN (x_then (c_reg ?_)))
  refine r_bin (v := .int .i64 ((i : Nat) + 1)) (vx := .int .i64 (i : Nat)) (vy := .int .i64 1) rfl rfl rfl rfl (bin_add (by omega) (by omega) (by omega)) ?_
  refine r_move (v := .int .i64 ((i : Nat) + 1)) rfl rfl rfl ?_
  refine r_doneN ?_
  refine x_round ⟨((i + 1), false, (acc ++ [((((readF l).1)).getD i default).data])), ⟨ofL_step hR (by omega) (by simp only [*, Bool.true_and, Bool.false_and, eq_self, decide_true, decide_false]), by omega, by rw [List.length_append, ha]; rfl⟩, by show (readF l).1.length - (i + 1) < (readF l).1.length - i; omega, ?_⟩
  refine weak_to (n := 5) rfl ?_ (by kernel_rfl) (by kernel_rfl)
  repeat (first | exact trivial | refine ⟨.inl rfl, ?_⟩ | refine ⟨.inr ⟨rfl, rfl⟩, ?_⟩ | refine ⟨.inr ⟨congrArg (Value.int .i64) (by first | omega | (dsimp only; omega)), rfl⟩, ?_⟩)
  refine r_skip (by exact congrArg (fun b => some (b == true)) h3) rfl ?_
  refine r_skip (by exact congrArg (fun b => some (b == true)) h3) rfl ?_
  refine r_skip (by exact congrArg (fun b => some (b == true)) h3) rfl ?_
  refine r_skip (by exact congrArg (fun b => some (b == true)) h3) rfl ?_
  refine r_skip (by exact congrArg (fun b => some (b == true)) h3) rfl ?_
  refine r_pick (v := .bool false) rfl rfl (by show some (if _ then _ else _) = _; rw [h3] <;> rfl) ?_
  refine r_nilCheck (p := pt 1 0) (v := pt 1 0) rfl rfl rfl rfl ?_
  refine r_store (p := pt 1 0) (v := .bool false) (b := 1) (blk := bxB 1 ([.bool false])) (H' := [rdB l, bxB 1 ([.bool false]), rfB (slv 3 0 i i), txB acc, rwB cFd ((readF l).1), bxB 2 (fdC ((((readF l).1)).getD i default)), hole]) rfl rfl rfl (by kernel_rfl) (by kernel_rfl) ?_
  refine r_doneN (x_then (c_reg ?_))
  refine r_load (p := pt 2 0) (v := slv 3 0 i i) rfl rfl rfl rfl ?_
  refine r_fieldAddr (b := 5) (o := 0) (n := 1) (o' := 1) rfl rfl rfl rfl rfl ?_
  refine r_load (p := pt 5 1) (v := .string (((((readF l).1)).getD i default).data)) rfl rfl rfl (by kernel_rfl) ?_
  refine r_lit (vs := [(0, .string (((((readF l).1)).getD i default).data))]) (v := slv 6 0 1 1) (blk := txB [((((readF l).1)).getD i default).data]) (nid := 6) (H' := [rdB l, bxB 1 ([.bool false]), rfB (slv 3 0 i i), txB acc, rwB cFd ((readF l).1), bxB 2 (fdC ((((readF l).1)).getD i default)), txB [((((readF l).1)).getD i default).data]]) rfl rfl rfl (by kernel_rfl) (by kernel_rfl) ?_
  have hl3 : (acc ++ [((((readF l).1)).getD i default).data]).length = i + 1 := by have := ha; have := (rfl : _ = 1); first | (rw [List.length_append]; omega) | (simp; omega) | simp
  refine r_append (p := slv 3 0 i i) (q := slv 6 0 1 1) (v := slv 3 0 (i + 1) (i + 1)) (b := 3) (blk := txB (acc ++ [((((readF l).1)).getD i default).data])) (H' := [rdB l, bxB 1 ([.bool false]), rfB (dead), txB (acc ++ [((((readF l).1)).getD i default).data]), rwB cFd ((readF l).1), bxB 2 (fdC ((((readF l).1)).getD i default)), txB [((((readF l).1)).getD i default).data]]) rfl rfl rfl (.inl ⟨_, rfl⟩) rfl rfl (appD_tx (by_ := 16) (k := 1) (n' := i + 1) (ms := [((((readF l).1)).getD i default).data]) rfl rfl (by kernel_rfl) rfl (by have := ha; omega) (by omega) (by decide) (by omega)) rfl (by kernel_rfl) ?_
  refine r_store (p := pt 2 0) (v := slv 3 0 (i + 1) (i + 1)) (b := 2) (blk := rfB (slv 3 0 (i + 1) (i + 1))) (H' := [rdB l, bxB 1 ([.bool false]), rfB (slv 3 0 (i + 1) (i + 1)), txB (acc ++ [((((readF l).1)).getD i default).data]), rwB cFd ((readF l).1), bxB 2 (fdC ((((readF l).1)).getD i default)), txB [((((readF l).1)).getD i default).data]]) rfl rfl rfl (by kernel_rfl) (by kernel_rfl) ?_
  refine r_doneN (x_blockN (x_then (c_reg ?_)))
  refine r_bin (v := .int .i64 ((i : Nat) + 1)) (vx := .int .i64 (i : Nat)) (vy := .int .i64 1) rfl rfl rfl rfl (bin_add (by omega) (by omega) (by omega)) ?_
  refine r_move (v := .int .i64 ((i : Nat) + 1)) rfl rfl rfl ?_
  refine r_doneN ?_
  refine x_round ⟨((i + 1), false, (acc ++ [((((readF l).1)).getD i default).data])), ⟨ofL_step hR (by omega) (by simp only [*, Bool.true_and, Bool.false_and, eq_self, decide_true, decide_false]), by omega, by rw [List.length_append, ha]; rfl⟩, by show (readF l).1.length - (i + 1) < (readF l).1.length - i; omega, ?_⟩
  refine weak_to (n := 5) rfl ?_ (by kernel_rfl) (by kernel_rfl)
  repeat (first | exact trivial | refine ⟨.inl rfl, ?_⟩ | refine ⟨.inr ⟨rfl, rfl⟩, ?_⟩ | refine ⟨.inr ⟨congrArg (Value.int .i64) (by first | omega | (dsimp only; omega)), rfl⟩, ?_⟩)
  refine r_bin (v := .bool false) (vx := .int .i64 (i : Nat)) (vy := .int .i64 ((((readF l).1.length) : Nat) : Int)) rfl rfl rfl rfl (lss_f (by omega)) ?_
  refine r_doneN (x_then (c_seq (c_false rfl (c_exit (x_thenE (x_leaveE (x_block rfl (x_then (c_seq (c_reg ?_))))))))))
  refine r_assign (v := pt 2 0) rfl rfl rfl ?_
  refine r_doneN (x_then (c_ret (x_end ?_)))
  have hR' : ofF l = (okv, acc) := by unfold ofF; rw [← hR, List.drop_of_length_le (by omega)]; rfl
  rw [hR']
  rw [show (okv, acc).2.length = i from ha]
  exact end_same (v := pt 2 0) rfl rfl rfl (by simp [keptB, rdB, bxB, rfB, txB, okId, okId0]) ⟨rfl, rfl⟩
  refine r_bin (v := .bool false) (vx := .int .i64 (((readF l).2))) (vy := .int .i64 0) rfl rfl rfl rfl (eql_f (by omega)) ?_
  refine r_nilCheck (p := pt 1 0) (v := pt 1 0) rfl rfl rfl rfl ?_
  refine r_store (p := pt 1 0) (v := .bool false) (b := 1) (blk := bxB 1 ([.bool false])) (H' := [rdB l, bxB 1 ([.bool false]), hole, hole, rwB cFd ((readF l).1)]) rfl rfl rfl (by kernel_rfl) (by kernel_rfl) ?_
  refine r_doneN (x_then (c_seq (c_reg ?_)))
  refine r_alloc (b := rfB (.slice none 0 0)) (nid := 2) (H' := [rdB l, bxB 1 ([.bool false]), rfB (.slice none 0 0), hole, rwB cFd ((readF l).1)]) rfl rfl (by kernel_rfl) (by kernel_rfl) ?_
  refine r_doneN (x_then (c_seq (c_seq ?_)))
  have hrl := readF_len l
  refine c_weak (Weak.nilCell (k := 2) (j := 0) (b := 3) true 1 rfl (by decide) rfl (by show 0 < 1; decide) rfl rfl) ?_
  refine c_reg ?_
  refine r_move (v := slv 4 0 ((readF l).1.length) ((readF l).1.length)) rfl rfl rfl ?_
  refine r_len (p := slv 4 0 ((readF l).1.length) ((readF l).1.length)) (v := .int .i64 ((((readF l).1.length) : Nat) : Int)) rfl rfl rfl rfl ?_
  refine r_move (v := .int .i64 0) rfl rfl rfl ?_
  refine r_doneN (x_then (c_block ?_))
  refine c_loopN (fun x : Nat × Bool × (List ByteArray) => match x with | (i, okv, acc) => [slv 0 0 l.length c, pt 1 0, dead, dead, .pointer none, slv 4 0 ((readF l).1.length) ((readF l).1.length), .int .i64 (((readF l).2)), pt 2 0, dead, dead, .tuple #[slv 4 0 ((readF l).1.length) ((readF l).1.length), .int .i64 (((readF l).2))], slv 0 0 l.length c, .tuple #[slv 4 0 ((readF l).1.length) ((readF l).1.length), .int .i64 (((readF l).2))], slv 4 0 ((readF l).1.length) ((readF l).1.length), .int .i64 (((readF l).2)), pt 1 0, .int .i64 (((readF l).2)), .bool false, pt 1 0, slv 4 0 ((readF l).1.length) ((readF l).1.length), .int .i64 ((((readF l).1.length) : Nat) : Int), .int .i64 (i : Nat)]) (fun x : Nat × Bool × (List ByteArray) => match x with | (i, okv, acc) => [rdB l, bxB 1 ([.bool okv]), rfB (slv 3 0 i i), txB acc, rwB cFd ((readF l).1)]) (fun x : Nat × Bool × (List ByteArray) => match x with | (i, okv, acc) => ofL ((readF l).1.drop i) i okv acc = ofL (readF l).1 0 (decide ((readF l).2 = 0)) [] ∧ i ≤ (readF l).1.length ∧ acc.length = i) (fun x : Nat × Bool × (List ByteArray) => match x with | (i, okv, acc) => (readF l).1.length - i) (0, false, []) ⟨by simp [*], by omega, rfl⟩ ?_ ?_
  · refine weak_to (n := 5) rfl ?_ (by kernel_rfl) (by kernel_rfl)
    repeat (first | exact trivial | refine ⟨.inl rfl, ?_⟩ | refine ⟨.inr ⟨rfl, rfl⟩, ?_⟩ | refine ⟨.inr ⟨congrArg (Value.int .i64) (by first | omega | (dsimp only; omega)), rfl⟩, ?_⟩)
  rintro ⟨i, okv, acc⟩ ⟨hR, hi, ha⟩
  dsimp only at *
  refine c_hole 2 (H' := [rdB l, bxB 1 ([.bool okv]), rfB (slv 3 0 i i), txB acc, rwB cFd ((readF l).1), hole, hole]) rfl ?_
  refine c_seq (c_reg ?_)
  by_cases h5 : (i : Nat) < ((((readF l).1.length) : Nat) : Int)
  refine r_bin (v := .bool true) (vx := .int .i64 (i : Nat)) (vy := .int .i64 ((((readF l).1.length) : Nat) : Int)) rfl rfl rfl rfl (lss_t (by omega)) ?_
  refine r_doneN (x_then (c_seq (c_true rfl (c_skip (x_then (c_seq (c_block (c_seq (c_reg ?_)))))))))
  refine r_move (v := .int .i64 (i : Nat)) rfl rfl rfl ?_
  refine r_idxS (b := 4) (o := 0) (j := i * 2) (m := ((readF l).1.length)) (c := ((readF l).1.length)) (sz := 2) (i := (i : Nat)) (k := .i64) rfl rfl rfl rfl rfl (by omega) (by omega) (by omega) ?_
  refine r_load (p := pt 4 (i * 2)) (v := fdV ((((readF l).1)).getD i default)) rfl rfl rfl (load_rw (n := 0) (m := 2) cFd rfl rfl rfl rfl (by omega) (by omega)) ?_
  refine r_alloc (b := bxB 2 (fdC (⟨0, ⟨#[]⟩⟩ : Field))) (nid := 5) (H' := [rdB l, bxB 1 ([.bool okv]), rfB (slv 3 0 i i), txB acc, rwB cFd ((readF l).1), bxB 2 (fdC (⟨0, ⟨#[]⟩⟩ : Field)), hole]) rfl rfl (by kernel_rfl) (by kernel_rfl) ?_
  refine r_assign (v := .int .i64 (i : Nat)) rfl rfl rfl ?_
  refine r_store (p := pt 5 0) (v := fdV ((((readF l).1)).getD i default)) (b := 5) (blk := bxB 2 (fdC ((((readF l).1)).getD i default))) (H' := [rdB l, bxB 1 ([.bool okv]), rfB (slv 3 0 i i), txB acc, rwB cFd ((readF l).1), bxB 2 (fdC ((((readF l).1)).getD i default)), hole]) rfl rfl rfl (by kernel_rfl) (by kernel_rfl) ?_
  refine r_doneN (x_then (c_seq (c_reg ?_)))
  refine r_move (v := pt 1 0) rfl rfl rfl ?_
  refine r_move (v := pt 1 0) rfl rfl rfl ?_
  refine r_nilCheck (p := pt 1 0) (v := pt 1 0) rfl rfl rfl rfl ?_
  refine r_load (p := pt 1 0) (v := .bool okv) rfl rfl rfl (by kernel_rfl) ?_
  refine r_move (v := .bool okv) rfl rfl rfl ?_
  rcases Bool.eq_false_or_eq_true okv with h6 | h6
  refine r_fieldAddr (b := 5) (o := 0) (n := 0) (o' := 0) (by exact congrArg (fun b => some (b == true)) h6) rfl rfl rfl rfl ?_
  refine r_load (p := pt 5 0) (v := .int .i64 ((((((readF l).1)).getD i default).tag))) (by exact congrArg (fun b => some (b == true)) h6) rfl rfl (by kernel_rfl) ?_
  refine r_move (v := .int .i64 (i : Nat)) (by exact congrArg (fun b => some (b == true)) h6) rfl rfl ?_
  refine r_bin (v := .int .i64 ((i : Nat) + 1)) (vx := .int .i64 (i : Nat)) (vy := .int .i64 1) (by exact congrArg (fun b => some (b == true)) h6) rfl rfl rfl (bin_add (by omega) (by omega) (by omega)) ?_
  by_cases h7 : ((((((readF l).1)).getD i default).tag)) = (i : Nat) + 1
  refine r_bin (v := .bool true) (vx := .int .i64 ((((((readF l).1)).getD i default).tag))) (vy := .int .i64 ((i : Nat) + 1)) (by exact congrArg (fun b => some (b == true)) h6) rfl rfl rfl (eql_t (by omega)) ?_
  refine r_pick (v := .bool true) rfl rfl (by show some (if _ then _ else _) = _; rw [h6] <;> rfl) ?_
  refine r_nilCheck (p := pt 1 0) (v := pt 1 0) rfl rfl rfl rfl ?_
  refine r_store (p := pt 1 0) (v := .bool true) (b := 1) (blk := bxB 1 ([.bool true])) (H' := [rdB l, bxB 1 ([.bool true]), rfB (slv 3 0 i i), txB acc, rwB cFd ((readF l).1), bxB 2 (fdC ((((readF l).1)).getD i default)), hole]) rfl rfl rfl (by kernel_rfl) (by kernel_rfl) ?_
  refine r_doneN (x_then (c_reg ?_))
  refine r_load (p := pt 2 0) (v := slv 3 0 i i) rfl rfl rfl rfl ?_
  refine r_fieldAddr (b := 5) (o := 0) (n := 1) (o' := 1) rfl rfl rfl rfl rfl ?_
  refine r_load (p := pt 5 1) (v := .string (((((readF l).1)).getD i default).data)) rfl rfl rfl (by kernel_rfl) ?_
  refine r_lit (vs := [(0, .string (((((readF l).1)).getD i default).data))]) (v := slv 6 0 1 1) (blk := txB [((((readF l).1)).getD i default).data]) (nid := 6) (H' := [rdB l, bxB 1 ([.bool true]), rfB (slv 3 0 i i), txB acc, rwB cFd ((readF l).1), bxB 2 (fdC ((((readF l).1)).getD i default)), txB [((((readF l).1)).getD i default).data]]) rfl rfl rfl (by kernel_rfl) (by kernel_rfl) ?_
  have hl4 : (acc ++ [((((readF l).1)).getD i default).data]).length = i + 1 := by have := ha; have := (rfl : _ = 1); first | (rw [List.length_append]; omega) | (simp; omega) | simp
  refine r_append (p := slv 3 0 i i) (q := slv 6 0 1 1) (v := slv 3 0 (i + 1) (i + 1)) (b := 3) (blk := txB (acc ++ [((((readF l).1)).getD i default).data])) (H' := [rdB l, bxB 1 ([.bool true]), rfB (dead), txB (acc ++ [((((readF l).1)).getD i default).data]), rwB cFd ((readF l).1), bxB 2 (fdC ((((readF l).1)).getD i default)), txB [((((readF l).1)).getD i default).data]]) rfl rfl rfl (.inl ⟨_, rfl⟩) rfl rfl (appD_tx (by_ := 16) (k := 1) (n' := i + 1) (ms := [((((readF l).1)).getD i default).data]) rfl rfl (by kernel_rfl) rfl (by have := ha; omega) (by omega) (by decide) (by omega)) rfl (by kernel_rfl) ?_
  refine r_store (p := pt 2 0) (v := slv 3 0 (i + 1) (i + 1)) (b := 2) (blk := rfB (slv 3 0 (i + 1) (i + 1))) (H' := [rdB l, bxB 1 ([.bool true]), rfB (slv 3 0 (i + 1) (i + 1)), txB (acc ++ [((((readF l).1)).getD i default).data]), rwB cFd ((readF l).1), bxB 2 (fdC ((((readF l).1)).getD i default)), txB [((((readF l).1)).getD i default).data]]) rfl rfl rfl (by kernel_rfl) (by kernel_rfl) ?_
  refine r_doneN (x_blockN (x_then (c_reg ?_)))
  refine r_bin (v := .int .i64 ((i : Nat) + 1)) (vx := .int .i64 (i : Nat)) (vy := .int .i64 1) rfl rfl rfl rfl (bin_add (by omega) (by omega) (by omega)) ?_
  refine r_move (v := .int .i64 ((i : Nat) + 1)) rfl rfl rfl ?_
  refine r_doneN ?_
  refine x_round ⟨((i + 1), true, (acc ++ [((((readF l).1)).getD i default).data])), ⟨ofL_step hR (by omega) (by simp only [*, Bool.true_and, Bool.false_and, eq_self, decide_true, decide_false]), by omega, by rw [List.length_append, ha]; rfl⟩, by show (readF l).1.length - (i + 1) < (readF l).1.length - i; omega, ?_⟩
  refine weak_to (n := 5) rfl ?_ (by kernel_rfl) (by kernel_rfl)
  repeat (first | exact trivial | refine ⟨.inl rfl, ?_⟩ | refine ⟨.inr ⟨rfl, rfl⟩, ?_⟩ | refine ⟨.inr ⟨congrArg (Value.int .i64) (by first | omega | (dsimp only; omega)), rfl⟩, ?_⟩)
  refine r_bin (v := .bool false) (vx := .int .i64 ((((((readF l).1)).getD i default).tag))) (vy := .int .i64 ((i : Nat) + 1)) (by exact congrArg (fun b => some (b == true)) h6) rfl rfl rfl (eql_f (by omega)) ?_
  refine r_pick (v := .bool false) rfl rfl (by show some (if _ then _ else _) = _; rw [h6] <;> rfl) ?_
  refine r_nilCheck (p := pt 1 0) (v := pt 1 0) rfl rfl rfl rfl ?_
  refine r_store (p := pt 1 0) (v := .bool false) (b := 1) (blk := bxB 1 ([.bool false])) (H' := [rdB l, bxB 1 ([.bool false]), rfB (slv 3 0 i i), txB acc, rwB cFd ((readF l).1), bxB 2 (fdC ((((readF l).1)).getD i default)), hole]) rfl rfl rfl (by kernel_rfl) (by kernel_rfl) ?_
  refine r_doneN (x_then (c_reg ?_))
  refine r_load (p := pt 2 0) (v := slv 3 0 i i) rfl rfl rfl rfl ?_
  refine r_fieldAddr (b := 5) (o := 0) (n := 1) (o' := 1) rfl rfl rfl rfl rfl ?_
  refine r_load (p := pt 5 1) (v := .string (((((readF l).1)).getD i default).data)) rfl rfl rfl (by kernel_rfl) ?_
  refine r_lit (vs := [(0, .string (((((readF l).1)).getD i default).data))]) (v := slv 6 0 1 1) (blk := txB [((((readF l).1)).getD i default).data]) (nid := 6) (H' := [rdB l, bxB 1 ([.bool false]), rfB (slv 3 0 i i), txB acc, rwB cFd ((readF l).1), bxB 2 (fdC ((((readF l).1)).getD i default)), txB [((((readF l).1)).getD i default).data]]) rfl rfl rfl (by kernel_rfl) (by kernel_rfl) ?_
  have hl5 : (acc ++ [((((readF l).1)).getD i default).data]).length = i + 1 := by have := ha; have := (rfl : _ = 1); first | (rw [List.length_append]; omega) | (simp; omega) | simp
  refine r_append (p := slv 3 0 i i) (q := slv 6 0 1 1) (v := slv 3 0 (i + 1) (i + 1)) (b := 3) (blk := txB (acc ++ [((((readF l).1)).getD i default).data])) (H' := [rdB l, bxB 1 ([.bool false]), rfB (dead), txB (acc ++ [((((readF l).1)).getD i default).data]), rwB cFd ((readF l).1), bxB 2 (fdC ((((readF l).1)).getD i default)), txB [((((readF l).1)).getD i default).data]]) rfl rfl rfl (.inl ⟨_, rfl⟩) rfl rfl (appD_tx (by_ := 16) (k := 1) (n' := i + 1) (ms := [((((readF l).1)).getD i default).data]) rfl rfl (by kernel_rfl) rfl (by have := ha; omega) (by omega) (by decide) (by omega)) rfl (by kernel_rfl) ?_
  refine r_store (p := pt 2 0) (v := slv 3 0 (i + 1) (i + 1)) (b := 2) (blk := rfB (slv 3 0 (i + 1) (i + 1))) (H' := [rdB l, bxB 1 ([.bool false]), rfB (slv 3 0 (i + 1) (i + 1)), txB (acc ++ [((((readF l).1)).getD i default).data]), rwB cFd ((readF l).1), bxB 2 (fdC ((((readF l).1)).getD i default)), txB [((((readF l).1)).getD i default).data]]) rfl rfl rfl (by kernel_rfl) (by kernel_rfl) ?_
  refine r_doneN (x_blockN (x_then (c_reg ?_)))
  refine r_bin (v := .int .i64 ((i : Nat) + 1)) (vx := .int .i64 (i : Nat)) (vy := .int .i64 1) rfl rfl rfl rfl (bin_add (by omega) (by omega) (by omega)) ?_
  refine r_move (v := .int .i64 ((i : Nat) + 1)) rfl rfl rfl ?_
  refine r_doneN ?_
  refine x_round ⟨((i + 1), false, (acc ++ [((((readF l).1)).getD i default).data])), ⟨ofL_step hR (by omega) (by simp only [*, Bool.true_and, Bool.false_and, eq_self, decide_true, decide_false]), by omega, by rw [List.length_append, ha]; rfl⟩, by show (readF l).1.length - (i + 1) < (readF l).1.length - i; omega, ?_⟩
  refine weak_to (n := 5) rfl ?_ (by kernel_rfl) (by kernel_rfl)
  repeat (first | exact trivial | refine ⟨.inl rfl, ?_⟩ | refine ⟨.inr ⟨rfl, rfl⟩, ?_⟩ | refine ⟨.inr ⟨congrArg (Value.int .i64) (by first | omega | (dsimp only; omega)), rfl⟩, ?_⟩)
  refine r_skip (by exact congrArg (fun b => some (b == true)) h6) rfl ?_
  refine r_skip (by exact congrArg (fun b => some (b == true)) h6) rfl ?_
  refine r_skip (by exact congrArg (fun b => some (b == true)) h6) rfl ?_
  refine r_skip (by exact congrArg (fun b => some (b == true)) h6) rfl ?_
  refine r_skip (by exact congrArg (fun b => some (b == true)) h6) rfl ?_
  refine r_pick (v := .bool false) rfl rfl (by show some (if _ then _ else _) = _; rw [h6] <;> rfl) ?_
  refine r_nilCheck (p := pt 1 0) (v := pt 1 0) rfl rfl rfl rfl ?_
  refine r_store (p := pt 1 0) (v := .bool false) (b := 1) (blk := bxB 1 ([.bool false])) (H' := [rdB l, bxB 1 ([.bool false]), rfB (slv 3 0 i i), txB acc, rwB cFd ((readF l).1), bxB 2 (fdC ((((readF l).1)).getD i default)), hole]) rfl rfl rfl (by kernel_rfl) (by kernel_rfl) ?_
  refine r_doneN (x_then (c_reg ?_))
  refine r_load (p := pt 2 0) (v := slv 3 0 i i) rfl rfl rfl rfl ?_
  refine r_fieldAddr (b := 5) (o := 0) (n := 1) (o' := 1) rfl rfl rfl rfl rfl ?_
  refine r_load (p := pt 5 1) (v := .string (((((readF l).1)).getD i default).data)) rfl rfl rfl (by kernel_rfl) ?_
  refine r_lit (vs := [(0, .string (((((readF l).1)).getD i default).data))]) (v := slv 6 0 1 1) (blk := txB [((((readF l).1)).getD i default).data]) (nid := 6) (H' := [rdB l, bxB 1 ([.bool false]), rfB (slv 3 0 i i), txB acc, rwB cFd ((readF l).1), bxB 2 (fdC ((((readF l).1)).getD i default)), txB [((((readF l).1)).getD i default).data]]) rfl rfl rfl (by kernel_rfl) (by kernel_rfl) ?_
  have hl6 : (acc ++ [((((readF l).1)).getD i default).data]).length = i + 1 := by have := ha; have := (rfl : _ = 1); first | (rw [List.length_append]; omega) | (simp; omega) | simp
  refine r_append (p := slv 3 0 i i) (q := slv 6 0 1 1) (v := slv 3 0 (i + 1) (i + 1)) (b := 3) (blk := txB (acc ++ [((((readF l).1)).getD i default).data])) (H' := [rdB l, bxB 1 ([.bool false]), rfB (dead), txB (acc ++ [((((readF l).1)).getD i default).data]), rwB cFd ((readF l).1), bxB 2 (fdC ((((readF l).1)).getD i default)), txB [((((readF l).1)).getD i default).data]]) rfl rfl rfl (.inl ⟨_, rfl⟩) rfl rfl (appD_tx (by_ := 16) (k := 1) (n' := i + 1) (ms := [((((readF l).1)).getD i default).data]) rfl rfl (by kernel_rfl) rfl (by have := ha; omega) (by omega) (by decide) (by omega)) rfl (by kernel_rfl) ?_
  refine r_store (p := pt 2 0) (v := slv 3 0 (i + 1) (i + 1)) (b := 2) (blk := rfB (slv 3 0 (i + 1) (i + 1))) (H' := [rdB l, bxB 1 ([.bool false]), rfB (slv 3 0 (i + 1) (i + 1)), txB (acc ++ [((((readF l).1)).getD i default).data]), rwB cFd ((readF l).1), bxB 2 (fdC ((((readF l).1)).getD i default)), txB [((((readF l).1)).getD i default).data]]) rfl rfl rfl (by kernel_rfl) (by kernel_rfl) ?_
  refine r_doneN (x_blockN (x_then (c_reg ?_)))
  refine r_bin (v := .int .i64 ((i : Nat) + 1)) (vx := .int .i64 (i : Nat)) (vy := .int .i64 1) rfl rfl rfl rfl (bin_add (by omega) (by omega) (by omega)) ?_
  refine r_move (v := .int .i64 ((i : Nat) + 1)) rfl rfl rfl ?_
  refine r_doneN ?_
  refine x_round ⟨((i + 1), false, (acc ++ [((((readF l).1)).getD i default).data])), ⟨ofL_step hR (by omega) (by simp only [*, Bool.true_and, Bool.false_and, eq_self, decide_true, decide_false]), by omega, by rw [List.length_append, ha]; rfl⟩, by show (readF l).1.length - (i + 1) < (readF l).1.length - i; omega, ?_⟩
  refine weak_to (n := 5) rfl ?_ (by kernel_rfl) (by kernel_rfl)
  repeat (first | exact trivial | refine ⟨.inl rfl, ?_⟩ | refine ⟨.inr ⟨rfl, rfl⟩, ?_⟩ | refine ⟨.inr ⟨congrArg (Value.int .i64) (by first | omega | (dsimp only; omega)), rfl⟩, ?_⟩)
  refine r_bin (v := .bool false) (vx := .int .i64 (i : Nat)) (vy := .int .i64 ((((readF l).1.length) : Nat) : Int)) rfl rfl rfl rfl (lss_f (by omega)) ?_
  refine r_doneN (x_then (c_seq (c_false rfl (c_exit (x_thenE (x_leaveE (x_block rfl (x_then (c_seq (c_reg ?_))))))))))
  refine r_assign (v := pt 2 0) rfl rfl rfl ?_
  refine r_doneN (x_then (c_ret (x_end ?_)))
  have hR' : ofF l = (okv, acc) := by unfold ofF; rw [← hR, List.drop_of_length_le (by omega)]; rfl
  rw [hR']
  rw [show (okv, acc).2.length = i from ha]
  exact end_same (v := pt 2 0) rfl rfl rfl (by simp [keptB, rdB, bxB, rfB, txB, okId, okId0]) ⟨rfl, rfl⟩
end Go.Flat
