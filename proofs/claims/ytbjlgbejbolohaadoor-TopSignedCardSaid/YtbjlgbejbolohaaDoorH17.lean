/- Walks. -/
import Derived.Test.YtbjlgbejbolohaaDoorH15
set_option linter.unusedVariables false
set_option linter.unusedSimpArgs false
set_option maxRecDepth 20000
namespace Go.Flat
open Go.Proofs
variable {G : Glob}
theorem Z0g (l : Bs) (n c : Nat) (hn : l.length = n) (hc : n ≤ c) (hb : n ≤ 1099511627776) : Zac Tryd.prog G 54 [slv 0 0 n c] [rdB l] (.tuple #[slv 1 0 (Zl l).1.length (Zl l).1.length, Iv (Zl l).2]) [rdB l, rwB cFd (Zl l).1] := by
 subst hn; exact Z21 (G := G) l c hc hb
theorem Zrm : ∀ (f : Nat) (l : Bs) (last : Int) (acc : List Field), (Zgz f l last acc).1.length ≤ acc.length + l.length
 | 0, l, last, acc => by simp [Zgz]
 | f + 1, l, last, acc => by
  rw [Zgz]
  split
  ·simp
  ·split
   ·simp
   ·split
    ·simp
    ·rename_i h0 h1 h2
     have h3 := Zpc (l := l) (n := l.length) (by omega)
     have := Zrm f (l.drop (Zd5 l l.length).2.1.toNat) (Zd5 l l.length).1.tag (acc ++ [(Zd5 l l.length).1])
     rw [List.length_append, List.length_drop] at this
     simp only [List.length_cons, List.length_nil] at this
     omega
theorem Zrl (l : Bs) : (Zl l).1.length ≤ l.length := by
 have := Zrm (l.length + 1) l 0 []
 simpa [Zl] using this
def ofL : List Field → Nat → Bool → List ByteArray → Bool × List ByteArray
  | [], _, ok, acc => (ok, acc)
  | f :: fs, i, ok, acc => ofL fs (i + 1) (ok && decide (f.tag = (i : Int) + 1)) (acc ++ [f.data])
def ofF (l : Bs) : Bool × List ByteArray := ofL (Zl l).1 0 (decide ((Zl l).2 = 0)) []
theorem Zi0 {fs : List Field} {i : Nat} {ok ok' : Bool} {acc : List ByteArray} {R : Bool × List ByteArray} (hR : ofL (fs.drop i) i ok acc = R) (hi : i < fs.length) (h : (ok && decide ((fs.getD i default).tag = (i : Int) + 1)) = ok') : ofL (fs.drop (i + 1)) (i + 1) ok' (acc ++ [(fs.getD i default).data]) = R := by
 subst h
 rw [Ziq hi, ofL] at hR
 exact hR
theorem Z7w (l : Bs) (c : Nat) (ok0 : Bool) (hc : l.length ≤ c) (hb : l.length ≤ 1099511627776) : Zac Tryd.prog G 31 [slv 0 0 l.length c, pt 1 0] [rdB l, bxB 1 ([.bool ok0])] (pt 2 0) [rdB l, bxB 1 [.bool (ofF l).1], rfB (slv 3 0 (ofF l).2.length (ofF l).2.length), txB (ofF l).2] := by
  refine Zb8 (fn := Tryd.f31) (nt := 44) rfl rfl rfl rfl ?_
  refine Zah 3 (H' := [rdB l, bxB 1 ([.bool ok0]), hole, hole, hole]) rfl ?_
  refine Ze (Zf (Zc rfl rfl (.pointer none) rfl (Za (Zb (Ze (Zf (Zd rfl rfl (slv 0 0 l.length c) rfl ?_)))))))
  refine Zab (e := [some (0, 0)]) (nid := 4) (Z0g (G := G) l l.length c (rfl : l.length = l.length) (by omega) (by omega)) (vals := [slv 0 0 l.length c]) (v := .tuple #[slv 4 0 ((Zl l).1.length) ((Zl l).1.length), Iv ((Zl l).2)]) (H' := [rdB l, bxB 1 ([.bool ok0]), hole, hole, rwB cFd ((Zl l).1)]) rfl rfl rfl rfl rfl rfl rfl ⟨⟨⟨rfl, rfl, rfl, by first | omega | exact Nat.le_refl _, by first | omega | exact Nat.le_refl _⟩, trivial⟩, ⟨(Zsi rfl), trivial⟩, rfl, rfl, rfl⟩ (by kernel_rfl) (by kernel_rfl) ?_
  refine Zd rfl rfl (.tuple #[slv 4 0 ((Zl l).1.length) ((Zl l).1.length), Iv ((Zl l).2)]) rfl (Z5 (vs := #[slv 4 0 ((Zl l).1.length) ((Zl l).1.length), Iv ((Zl l).2)]) (v := slv 4 0 ((Zl l).1.length) ((Zl l).1.length)) rfl rfl rfl rfl (Z5 (vs := #[slv 4 0 ((Zl l).1.length) ((Zl l).1.length), Iv ((Zl l).2)]) (v := Iv ((Zl l).2)) rfl rfl rfl rfl (Zc rfl rfl (slv 4 0 ((Zl l).1.length) ((Zl l).1.length)) rfl (Zc rfl rfl (Iv ((Zl l).2)) rfl (Za (Zb (Ze (Zf (Zd rfl rfl (pt 1 0) rfl (Zd rfl rfl (Iv ((Zl l).2)) rfl ?_))))))))))
  by_cases h1 : ((Zl l).2) = 0
  refine Zi (vx := Iv ((Zl l).2)) (vy := Iv 0) rfl rfl (.bool true) rfl rfl (Zd2 (by omega)) ?_
  refine Z7 (p := pt 1 0) (v := pt 1 0) rfl rfl rfl rfl ?_
  refine Zj (p := pt 1 0) (v := .bool true) (b := 1) (blk := bxB 1 ([.bool true])) (H' := [rdB l, bxB 1 ([.bool true]), hole, hole, rwB cFd ((Zl l).1)]) rfl rfl rfl (by kernel_rfl) (by kernel_rfl) ?_
  refine Za (Zb (Ze (Zf ?_)))
  refine Zq (b := rfB (.slice none 0 0)) (nid := 2) (H' := [rdB l, bxB 1 ([.bool true]), rfB (.slice none 0 0), hole, rwB cFd ((Zl l).1)]) rfl rfl (by kernel_rfl) (by kernel_rfl) ?_
  refine Za (Zb (Ze (Ze ?_)))
  have hrl := Zrl l
  refine Zc8 (Zb2.nilCell (k := 2) (j := 0) (b := 3) true 1 rfl (by decide) rfl (by show 0 < 1; decide) rfl rfl) ?_
  refine Zf (Zd rfl rfl (slv 4 0 ((Zl l).1.length) ((Zl l).1.length)) rfl ?_)
  refine Za6 (p := slv 4 0 ((Zl l).1.length) ((Zl l).1.length)) (v := Iv ((((Zl l).1.length) : Nat) : Int)) rfl rfl rfl rfl ?_
  refine Zd rfl rfl (Iv 0) rfl (Za (Zb (Z1 ?_)))
  refine Zby (fun x : Nat × Bool × (List ByteArray) => match x with | (i, okv, acc) => [slv 0 0 l.length c, pt 1 0, dead, dead, .pointer none, slv 4 0 ((Zl l).1.length) ((Zl l).1.length), Iv ((Zl l).2), pt 2 0, dead, dead, .tuple #[slv 4 0 ((Zl l).1.length) ((Zl l).1.length), Iv ((Zl l).2)], slv 0 0 l.length c, .tuple #[slv 4 0 ((Zl l).1.length) ((Zl l).1.length), Iv ((Zl l).2)], slv 4 0 ((Zl l).1.length) ((Zl l).1.length), Iv ((Zl l).2), pt 1 0, Iv ((Zl l).2), .bool true, pt 1 0, slv 4 0 ((Zl l).1.length) ((Zl l).1.length), Iv ((((Zl l).1.length) : Nat) : Int), Iv (i : Nat)]) (fun x : Nat × Bool × (List ByteArray) => match x with | (i, okv, acc) => [rdB l, bxB 1 ([.bool okv]), rfB (slv 3 0 i i), txB acc, rwB cFd ((Zl l).1)]) (fun x : Nat × Bool × (List ByteArray) => match x with | (i, okv, acc) => ofL ((Zl l).1.drop i) i okv acc = ofL (Zl l).1 0 (decide ((Zl l).2 = 0)) [] ∧ i ≤ (Zl l).1.length ∧ acc.length = i) (fun x : Nat × Bool × (List ByteArray) => match x with | (i, okv, acc) => (Zl l).1.length - i) (0, true, []) ⟨by simp [*], by omega, rfl⟩ ?_ ?_
  · refine Z2 (n := 5) rfl ?_ (by kernel_rfl) (by kernel_rfl)
    repeat (first | exact trivial | refine ⟨.inl rfl, ?_⟩ | refine ⟨.inr ⟨rfl, rfl⟩, ?_⟩ | refine ⟨.inr ⟨congrArg (Value.int .i64) (by first | omega | (dsimp only; omega)), rfl⟩, ?_⟩)
  rintro ⟨i, okv, acc⟩ ⟨hR, hi, ha⟩
  dsimp only at *
  refine Zah 2 (H' := [rdB l, bxB 1 ([.bool okv]), rfB (slv 3 0 i i), txB acc, rwB cFd ((Zl l).1), hole, hole]) rfl ?_
  refine Ze (Zf ?_)
  by_cases h2 : (i : Nat) < ((((Zl l).1.length) : Nat) : Int)
  refine Zi (vx := Iv (i : Nat)) (vy := Iv ((((Zl l).1.length) : Nat) : Int)) rfl rfl (.bool true) rfl rfl (Zcv (by omega)) ?_
  refine Za (Zb (Ze (Zu rfl (Z0 (Zb (Ze (Z1 (Ze (Zf (Zd rfl rfl (Iv (i : Nat)) rfl ?_))))))))))
  refine Zbe (b := 4) (o := 0) (j := i * 2) (m := ((Zl l).1.length)) (c := ((Zl l).1.length)) (sz := 2) (i := (i : Nat)) (k := .i64) rfl rfl rfl rfl rfl (by omega) (by omega) (by omega) ?_
  refine Zg (p := pt 4 (i * 2)) (v := fdV (((Zl l).1).getD i default)) rfl rfl rfl (Zst (n := 0) (m := 2) cFd rfl rfl rfl rfl (by omega) (by omega)) ?_
  refine Zq (b := bxB 2 (fdC (⟨0, ⟨#[]⟩⟩ : Field))) (nid := 5) (H' := [rdB l, bxB 1 ([.bool okv]), rfB (slv 3 0 i i), txB acc, rwB cFd ((Zl l).1), bxB 2 (fdC (⟨0, ⟨#[]⟩⟩ : Field)), hole]) rfl rfl (by kernel_rfl) (by kernel_rfl) ?_
  refine Zc rfl rfl (Iv (i : Nat)) rfl ?_
  refine Zj (p := pt 5 0) (v := fdV (((Zl l).1).getD i default)) (b := 5) (blk := bxB 2 (fdC (((Zl l).1).getD i default))) (H' := [rdB l, bxB 1 ([.bool okv]), rfB (slv 3 0 i i), txB acc, rwB cFd ((Zl l).1), bxB 2 (fdC (((Zl l).1).getD i default)), hole]) rfl rfl rfl (by kernel_rfl) (by kernel_rfl) ?_
  refine Za (Zb (Ze (Zf (Zd rfl rfl (pt 1 0) rfl (Zd rfl rfl (pt 1 0) rfl ?_)))))
  refine Z7 (p := pt 1 0) (v := pt 1 0) rfl rfl rfl rfl ?_
  refine Zg (p := pt 1 0) (v := .bool okv) rfl rfl rfl (by kernel_rfl) ?_
  refine Zd rfl rfl (.bool okv) rfl ?_
  rcases Bool.eq_false_or_eq_true okv with h3 | h3
  refine Zh (b := 5) (o := 0) (n := 0) (o' := 0) (by exact congrArg (fun b => some (b == true)) h3) rfl rfl rfl rfl ?_
  refine Zg (p := pt 5 0) (v := Iv ((((Zl l).1).getD i default).tag)) (by exact congrArg (fun b => some (b == true)) h3) rfl rfl (by kernel_rfl) ?_
  refine Zd (by exact congrArg (fun b => some (b == true)) h3) rfl (Iv (i : Nat)) rfl ?_
  refine Zi (vx := Iv (i : Nat)) (vy := Iv 1) (by exact congrArg (fun b => some (b == true)) h3) rfl (Iv ((i : Nat) + 1)) rfl rfl (Zap (by omega) (by omega) (by omega)) ?_
  by_cases h4 : ((((Zl l).1).getD i default).tag) = (i : Nat) + 1
  refine Zi (vx := Iv ((((Zl l).1).getD i default).tag)) (vy := Iv ((i : Nat) + 1)) (by exact congrArg (fun b => some (b == true)) h3) rfl (.bool true) rfl rfl (Zd2 (by omega)) ?_
  refine Zp rfl rfl (.bool true) (by show some (if _ then _ else _) = _; rw [h3] <;> rfl) ?_
  refine Z7 (p := pt 1 0) (v := pt 1 0) rfl rfl rfl rfl ?_
  refine Zj (p := pt 1 0) (v := .bool true) (b := 1) (blk := bxB 1 ([.bool true])) (H' := [rdB l, bxB 1 ([.bool true]), rfB (slv 3 0 i i), txB acc, rwB cFd ((Zl l).1), bxB 2 (fdC (((Zl l).1).getD i default)), hole]) rfl rfl rfl (by kernel_rfl) (by kernel_rfl) ?_
  refine Za (Zb (Zf ?_))
  refine Zg (p := pt 2 0) (v := slv 3 0 i i) rfl rfl rfl rfl ?_
  refine Zh (b := 5) (o := 0) (n := 1) (o' := 1) rfl rfl rfl rfl rfl ?_
  refine Zg (p := pt 5 1) (v := .string ((((Zl l).1).getD i default).data)) rfl rfl rfl (by kernel_rfl) ?_
  refine Zdd (vs := [(0, .string ((((Zl l).1).getD i default).data))]) (v := slv 6 0 1 1) (blk := txB [(((Zl l).1).getD i default).data]) (nid := 6) (H' := [rdB l, bxB 1 ([.bool true]), rfB (slv 3 0 i i), txB acc, rwB cFd ((Zl l).1), bxB 2 (fdC (((Zl l).1).getD i default)), txB [(((Zl l).1).getD i default).data]]) rfl rfl rfl (by kernel_rfl) (by kernel_rfl) ?_
  have hl1 : (acc ++ [(((Zl l).1).getD i default).data]).length = i + 1 := by have := ha; have := (rfl : _ = 1); first | (rw [List.length_append]; omega) | (simp; omega) | simp
  refine Za5 (p := slv 3 0 i i) (q := slv 6 0 1 1) (v := slv 3 0 (i + 1) (i + 1)) (b := 3) (blk := txB (acc ++ [(((Zl l).1).getD i default).data])) (H' := [rdB l, bxB 1 ([.bool true]), rfB (dead), txB (acc ++ [(((Zl l).1).getD i default).data]), rwB cFd ((Zl l).1), bxB 2 (fdC (((Zl l).1).getD i default)), txB [(((Zl l).1).getD i default).data]]) rfl rfl rfl (.inl ⟨_, rfl⟩) rfl rfl (Zht (by_ := 16) (k := 1) (n' := i + 1) (ms := [(((Zl l).1).getD i default).data]) rfl rfl (by kernel_rfl) rfl (by have := ha; omega) (by omega) (by decide) (by omega)) rfl (by kernel_rfl) ?_
  refine Zj (p := pt 2 0) (v := slv 3 0 (i + 1) (i + 1)) (b := 2) (blk := rfB (slv 3 0 (i + 1) (i + 1))) (H' := [rdB l, bxB 1 ([.bool true]), rfB (slv 3 0 (i + 1) (i + 1)), txB (acc ++ [(((Zl l).1).getD i default).data]), rwB cFd ((Zl l).1), bxB 2 (fdC (((Zl l).1).getD i default)), txB [(((Zl l).1).getD i default).data]]) rfl rfl rfl (by kernel_rfl) (by kernel_rfl) ?_
  refine Za (Zag (Zb (Zf ?_)))
  refine Zi (vx := Iv (i : Nat)) (vy := Iv 1) rfl rfl (Iv ((i : Nat) + 1)) rfl rfl (Zap (by omega) (by omega) (by omega)) ?_
  refine Zd rfl rfl (Iv ((i : Nat) + 1)) rfl (Za ?_)
  refine Zx ⟨((i + 1), true, (acc ++ [(((Zl l).1).getD i default).data])), ⟨Zi0 hR (by omega) (by simp only [*, Bool.true_and, Bool.false_and, eq_self, decide_true, decide_false]), by omega, by rw [List.length_append, ha]; rfl⟩, by show (Zl l).1.length - (i + 1) < (Zl l).1.length - i; omega, ?_⟩
  refine Z2 (n := 5) rfl ?_ (by kernel_rfl) (by kernel_rfl)
  repeat (first | exact trivial | refine ⟨.inl rfl, ?_⟩ | refine ⟨.inr ⟨rfl, rfl⟩, ?_⟩ | refine ⟨.inr ⟨congrArg (Value.int .i64) (by first | omega | (dsimp only; omega)), rfl⟩, ?_⟩)
  refine Zi (vx := Iv ((((Zl l).1).getD i default).tag)) (vy := Iv ((i : Nat) + 1)) (by exact congrArg (fun b => some (b == true)) h3) rfl (.bool false) rfl rfl (Zfc (by omega)) ?_
  refine Zp rfl rfl (.bool false) (by show some (if _ then _ else _) = _; rw [h3] <;> rfl) ?_
  refine Z7 (p := pt 1 0) (v := pt 1 0) rfl rfl rfl rfl ?_
  refine Zj (p := pt 1 0) (v := .bool false) (b := 1) (blk := bxB 1 ([.bool false])) (H' := [rdB l, bxB 1 ([.bool false]), rfB (slv 3 0 i i), txB acc, rwB cFd ((Zl l).1), bxB 2 (fdC (((Zl l).1).getD i default)), hole]) rfl rfl rfl (by kernel_rfl) (by kernel_rfl) ?_
  refine Za (Zb (Zf ?_))
  refine Zg (p := pt 2 0) (v := slv 3 0 i i) rfl rfl rfl rfl ?_
  refine Zh (b := 5) (o := 0) (n := 1) (o' := 1) rfl rfl rfl rfl rfl ?_
  refine Zg (p := pt 5 1) (v := .string ((((Zl l).1).getD i default).data)) rfl rfl rfl (by kernel_rfl) ?_
  refine Zdd (vs := [(0, .string ((((Zl l).1).getD i default).data))]) (v := slv 6 0 1 1) (blk := txB [(((Zl l).1).getD i default).data]) (nid := 6) (H' := [rdB l, bxB 1 ([.bool false]), rfB (slv 3 0 i i), txB acc, rwB cFd ((Zl l).1), bxB 2 (fdC (((Zl l).1).getD i default)), txB [(((Zl l).1).getD i default).data]]) rfl rfl rfl (by kernel_rfl) (by kernel_rfl) ?_
  have hl2 : (acc ++ [(((Zl l).1).getD i default).data]).length = i + 1 := by have := ha; have := (rfl : _ = 1); first | (rw [List.length_append]; omega) | (simp; omega) | simp
  refine Za5 (p := slv 3 0 i i) (q := slv 6 0 1 1) (v := slv 3 0 (i + 1) (i + 1)) (b := 3) (blk := txB (acc ++ [(((Zl l).1).getD i default).data])) (H' := [rdB l, bxB 1 ([.bool false]), rfB (dead), txB (acc ++ [(((Zl l).1).getD i default).data]), rwB cFd ((Zl l).1), bxB 2 (fdC (((Zl l).1).getD i default)), txB [(((Zl l).1).getD i default).data]]) rfl rfl rfl (.inl ⟨_, rfl⟩) rfl rfl (Zht (by_ := 16) (k := 1) (n' := i + 1) (ms := [(((Zl l).1).getD i default).data]) rfl rfl (by kernel_rfl) rfl (by have := ha; omega) (by omega) (by decide) (by omega)) rfl (by kernel_rfl) ?_
  refine Zj (p := pt 2 0) (v := slv 3 0 (i + 1) (i + 1)) (b := 2) (blk := rfB (slv 3 0 (i + 1) (i + 1))) (H' := [rdB l, bxB 1 ([.bool false]), rfB (slv 3 0 (i + 1) (i + 1)), txB (acc ++ [(((Zl l).1).getD i default).data]), rwB cFd ((Zl l).1), bxB 2 (fdC (((Zl l).1).getD i default)), txB [(((Zl l).1).getD i default).data]]) rfl rfl rfl (by kernel_rfl) (by kernel_rfl) ?_
  refine Za (Zag (Zb (Zf ?_)))
  refine Zi (vx := Iv (i : Nat)) (vy := Iv 1) rfl rfl (Iv ((i : Nat) + 1)) rfl rfl (Zap (by omega) (by omega) (by omega)) ?_
  refine Zd rfl rfl (Iv ((i : Nat) + 1)) rfl (Za ?_)
  refine Zx ⟨((i + 1), false, (acc ++ [(((Zl l).1).getD i default).data])), ⟨Zi0 hR (by omega) (by simp only [*, Bool.true_and, Bool.false_and, eq_self, decide_true, decide_false]), by omega, by rw [List.length_append, ha]; rfl⟩, by show (Zl l).1.length - (i + 1) < (Zl l).1.length - i; omega, ?_⟩
  refine Z2 (n := 5) rfl ?_ (by kernel_rfl) (by kernel_rfl)
  repeat (first | exact trivial | refine ⟨.inl rfl, ?_⟩ | refine ⟨.inr ⟨rfl, rfl⟩, ?_⟩ | refine ⟨.inr ⟨congrArg (Value.int .i64) (by first | omega | (dsimp only; omega)), rfl⟩, ?_⟩)
  refine Zn (by exact congrArg (fun b => some (b == true)) h3) rfl ?_
  refine Zn (by exact congrArg (fun b => some (b == true)) h3) rfl ?_
  refine Zn (by exact congrArg (fun b => some (b == true)) h3) rfl ?_
  refine Zn (by exact congrArg (fun b => some (b == true)) h3) rfl ?_
  refine Zn (by exact congrArg (fun b => some (b == true)) h3) rfl ?_
  refine Zp rfl rfl (.bool false) (by show some (if _ then _ else _) = _; rw [h3] <;> rfl) ?_
  refine Z7 (p := pt 1 0) (v := pt 1 0) rfl rfl rfl rfl ?_
  refine Zj (p := pt 1 0) (v := .bool false) (b := 1) (blk := bxB 1 ([.bool false])) (H' := [rdB l, bxB 1 ([.bool false]), rfB (slv 3 0 i i), txB acc, rwB cFd ((Zl l).1), bxB 2 (fdC (((Zl l).1).getD i default)), hole]) rfl rfl rfl (by kernel_rfl) (by kernel_rfl) ?_
  refine Za (Zb (Zf ?_))
  refine Zg (p := pt 2 0) (v := slv 3 0 i i) rfl rfl rfl rfl ?_
  refine Zh (b := 5) (o := 0) (n := 1) (o' := 1) rfl rfl rfl rfl rfl ?_
  refine Zg (p := pt 5 1) (v := .string ((((Zl l).1).getD i default).data)) rfl rfl rfl (by kernel_rfl) ?_
  refine Zdd (vs := [(0, .string ((((Zl l).1).getD i default).data))]) (v := slv 6 0 1 1) (blk := txB [(((Zl l).1).getD i default).data]) (nid := 6) (H' := [rdB l, bxB 1 ([.bool false]), rfB (slv 3 0 i i), txB acc, rwB cFd ((Zl l).1), bxB 2 (fdC (((Zl l).1).getD i default)), txB [(((Zl l).1).getD i default).data]]) rfl rfl rfl (by kernel_rfl) (by kernel_rfl) ?_
  have hl3 : (acc ++ [(((Zl l).1).getD i default).data]).length = i + 1 := by have := ha; have := (rfl : _ = 1); first | (rw [List.length_append]; omega) | (simp; omega) | simp
  refine Za5 (p := slv 3 0 i i) (q := slv 6 0 1 1) (v := slv 3 0 (i + 1) (i + 1)) (b := 3) (blk := txB (acc ++ [(((Zl l).1).getD i default).data])) (H' := [rdB l, bxB 1 ([.bool false]), rfB (dead), txB (acc ++ [(((Zl l).1).getD i default).data]), rwB cFd ((Zl l).1), bxB 2 (fdC (((Zl l).1).getD i default)), txB [(((Zl l).1).getD i default).data]]) rfl rfl rfl (.inl ⟨_, rfl⟩) rfl rfl (Zht (by_ := 16) (k := 1) (n' := i + 1) (ms := [(((Zl l).1).getD i default).data]) rfl rfl (by kernel_rfl) rfl (by have := ha; omega) (by omega) (by decide) (by omega)) rfl (by kernel_rfl) ?_
  refine Zj (p := pt 2 0) (v := slv 3 0 (i + 1) (i + 1)) (b := 2) (blk := rfB (slv 3 0 (i + 1) (i + 1))) (H' := [rdB l, bxB 1 ([.bool false]), rfB (slv 3 0 (i + 1) (i + 1)), txB (acc ++ [(((Zl l).1).getD i default).data]), rwB cFd ((Zl l).1), bxB 2 (fdC (((Zl l).1).getD i default)), txB [(((Zl l).1).getD i default).data]]) rfl rfl rfl (by kernel_rfl) (by kernel_rfl) ?_
  refine Za (Zag (Zb (Zf ?_)))
  refine Zi (vx := Iv (i : Nat)) (vy := Iv 1) rfl rfl (Iv ((i : Nat) + 1)) rfl rfl (Zap (by omega) (by omega) (by omega)) ?_
  refine Zd rfl rfl (Iv ((i : Nat) + 1)) rfl (Za ?_)
  refine Zx ⟨((i + 1), false, (acc ++ [(((Zl l).1).getD i default).data])), ⟨Zi0 hR (by omega) (by simp only [*, Bool.true_and, Bool.false_and, eq_self, decide_true, decide_false]), by omega, by rw [List.length_append, ha]; rfl⟩, by show (Zl l).1.length - (i + 1) < (Zl l).1.length - i; omega, ?_⟩
  refine Z2 (n := 5) rfl ?_ (by kernel_rfl) (by kernel_rfl)
  repeat (first | exact trivial | refine ⟨.inl rfl, ?_⟩ | refine ⟨.inr ⟨rfl, rfl⟩, ?_⟩ | refine ⟨.inr ⟨congrArg (Value.int .i64) (by first | omega | (dsimp only; omega)), rfl⟩, ?_⟩)
  refine Zi (vx := Iv (i : Nat)) (vy := Iv ((((Zl l).1.length) : Nat) : Int)) rfl rfl (.bool false) rfl rfl (Zbv (by omega)) ?_
  refine Za (Zb (Ze (Zr rfl (Zbx (Zay (Zav (Za2 rfl (Zb (Ze (Zf (Zc rfl rfl (pt 2 0) rfl (Za (Zb (Zw (Zy ?_)))))))))))))))
  have hR' : ofF l = (okv, acc) := by unfold ofF; rw [← hR, List.drop_of_length_le (by omega)]; rfl
  rw [hR']
  rw [show (okv, acc).2.length = i from ha]
  exact Zo (v := pt 2 0) rfl rfl rfl (by simp [Za1, rdB, bxB, rfB, txB, Zhk, Zdz]) ⟨rfl, rfl⟩
  refine Zi (vx := Iv ((Zl l).2)) (vy := Iv 0) rfl rfl (.bool false) rfl rfl (Zfc (by omega)) ?_
  refine Z7 (p := pt 1 0) (v := pt 1 0) rfl rfl rfl rfl ?_
  refine Zj (p := pt 1 0) (v := .bool false) (b := 1) (blk := bxB 1 ([.bool false])) (H' := [rdB l, bxB 1 ([.bool false]), hole, hole, rwB cFd ((Zl l).1)]) rfl rfl rfl (by kernel_rfl) (by kernel_rfl) ?_
  refine Za (Zb (Ze (Zf ?_)))
  refine Zq (b := rfB (.slice none 0 0)) (nid := 2) (H' := [rdB l, bxB 1 ([.bool false]), rfB (.slice none 0 0), hole, rwB cFd ((Zl l).1)]) rfl rfl (by kernel_rfl) (by kernel_rfl) ?_
  refine Za (Zb (Ze (Ze ?_)))
  have hrl := Zrl l
  refine Zc8 (Zb2.nilCell (k := 2) (j := 0) (b := 3) true 1 rfl (by decide) rfl (by show 0 < 1; decide) rfl rfl) ?_
  refine Zf (Zd rfl rfl (slv 4 0 ((Zl l).1.length) ((Zl l).1.length)) rfl ?_)
  refine Za6 (p := slv 4 0 ((Zl l).1.length) ((Zl l).1.length)) (v := Iv ((((Zl l).1.length) : Nat) : Int)) rfl rfl rfl rfl ?_
  refine Zd rfl rfl (Iv 0) rfl (Za (Zb (Z1 ?_)))
  refine Zby (fun x : Nat × Bool × (List ByteArray) => match x with | (i, okv, acc) => [slv 0 0 l.length c, pt 1 0, dead, dead, .pointer none, slv 4 0 ((Zl l).1.length) ((Zl l).1.length), Iv ((Zl l).2), pt 2 0, dead, dead, .tuple #[slv 4 0 ((Zl l).1.length) ((Zl l).1.length), Iv ((Zl l).2)], slv 0 0 l.length c, .tuple #[slv 4 0 ((Zl l).1.length) ((Zl l).1.length), Iv ((Zl l).2)], slv 4 0 ((Zl l).1.length) ((Zl l).1.length), Iv ((Zl l).2), pt 1 0, Iv ((Zl l).2), .bool false, pt 1 0, slv 4 0 ((Zl l).1.length) ((Zl l).1.length), Iv ((((Zl l).1.length) : Nat) : Int), Iv (i : Nat)]) (fun x : Nat × Bool × (List ByteArray) => match x with | (i, okv, acc) => [rdB l, bxB 1 ([.bool okv]), rfB (slv 3 0 i i), txB acc, rwB cFd ((Zl l).1)]) (fun x : Nat × Bool × (List ByteArray) => match x with | (i, okv, acc) => ofL ((Zl l).1.drop i) i okv acc = ofL (Zl l).1 0 (decide ((Zl l).2 = 0)) [] ∧ i ≤ (Zl l).1.length ∧ acc.length = i) (fun x : Nat × Bool × (List ByteArray) => match x with | (i, okv, acc) => (Zl l).1.length - i) (0, false, []) ⟨by simp [*], by omega, rfl⟩ ?_ ?_
  · refine Z2 (n := 5) rfl ?_ (by kernel_rfl) (by kernel_rfl)
    repeat (first | exact trivial | refine ⟨.inl rfl, ?_⟩ | refine ⟨.inr ⟨rfl, rfl⟩, ?_⟩ | refine ⟨.inr ⟨congrArg (Value.int .i64) (by first | omega | (dsimp only; omega)), rfl⟩, ?_⟩)
  rintro ⟨i, okv, acc⟩ ⟨hR, hi, ha⟩
  dsimp only at *
  refine Zah 2 (H' := [rdB l, bxB 1 ([.bool okv]), rfB (slv 3 0 i i), txB acc, rwB cFd ((Zl l).1), hole, hole]) rfl ?_
  refine Ze (Zf ?_)
  by_cases h5 : (i : Nat) < ((((Zl l).1.length) : Nat) : Int)
  refine Zi (vx := Iv (i : Nat)) (vy := Iv ((((Zl l).1.length) : Nat) : Int)) rfl rfl (.bool true) rfl rfl (Zcv (by omega)) ?_
  refine Za (Zb (Ze (Zu rfl (Z0 (Zb (Ze (Z1 (Ze (Zf (Zd rfl rfl (Iv (i : Nat)) rfl ?_))))))))))
  refine Zbe (b := 4) (o := 0) (j := i * 2) (m := ((Zl l).1.length)) (c := ((Zl l).1.length)) (sz := 2) (i := (i : Nat)) (k := .i64) rfl rfl rfl rfl rfl (by omega) (by omega) (by omega) ?_
  refine Zg (p := pt 4 (i * 2)) (v := fdV (((Zl l).1).getD i default)) rfl rfl rfl (Zst (n := 0) (m := 2) cFd rfl rfl rfl rfl (by omega) (by omega)) ?_
  refine Zq (b := bxB 2 (fdC (⟨0, ⟨#[]⟩⟩ : Field))) (nid := 5) (H' := [rdB l, bxB 1 ([.bool okv]), rfB (slv 3 0 i i), txB acc, rwB cFd ((Zl l).1), bxB 2 (fdC (⟨0, ⟨#[]⟩⟩ : Field)), hole]) rfl rfl (by kernel_rfl) (by kernel_rfl) ?_
  refine Zc rfl rfl (Iv (i : Nat)) rfl ?_
  refine Zj (p := pt 5 0) (v := fdV (((Zl l).1).getD i default)) (b := 5) (blk := bxB 2 (fdC (((Zl l).1).getD i default))) (H' := [rdB l, bxB 1 ([.bool okv]), rfB (slv 3 0 i i), txB acc, rwB cFd ((Zl l).1), bxB 2 (fdC (((Zl l).1).getD i default)), hole]) rfl rfl rfl (by kernel_rfl) (by kernel_rfl) ?_
  refine Za (Zb (Ze (Zf (Zd rfl rfl (pt 1 0) rfl (Zd rfl rfl (pt 1 0) rfl ?_)))))
  refine Z7 (p := pt 1 0) (v := pt 1 0) rfl rfl rfl rfl ?_
  refine Zg (p := pt 1 0) (v := .bool okv) rfl rfl rfl (by kernel_rfl) ?_
  refine Zd rfl rfl (.bool okv) rfl ?_
  rcases Bool.eq_false_or_eq_true okv with h6 | h6
  refine Zh (b := 5) (o := 0) (n := 0) (o' := 0) (by exact congrArg (fun b => some (b == true)) h6) rfl rfl rfl rfl ?_
  refine Zg (p := pt 5 0) (v := Iv ((((Zl l).1).getD i default).tag)) (by exact congrArg (fun b => some (b == true)) h6) rfl rfl (by kernel_rfl) ?_
  refine Zd (by exact congrArg (fun b => some (b == true)) h6) rfl (Iv (i : Nat)) rfl ?_
  refine Zi (vx := Iv (i : Nat)) (vy := Iv 1) (by exact congrArg (fun b => some (b == true)) h6) rfl (Iv ((i : Nat) + 1)) rfl rfl (Zap (by omega) (by omega) (by omega)) ?_
  by_cases h7 : ((((Zl l).1).getD i default).tag) = (i : Nat) + 1
  refine Zi (vx := Iv ((((Zl l).1).getD i default).tag)) (vy := Iv ((i : Nat) + 1)) (by exact congrArg (fun b => some (b == true)) h6) rfl (.bool true) rfl rfl (Zd2 (by omega)) ?_
  refine Zp rfl rfl (.bool true) (by show some (if _ then _ else _) = _; rw [h6] <;> rfl) ?_
  refine Z7 (p := pt 1 0) (v := pt 1 0) rfl rfl rfl rfl ?_
  refine Zj (p := pt 1 0) (v := .bool true) (b := 1) (blk := bxB 1 ([.bool true])) (H' := [rdB l, bxB 1 ([.bool true]), rfB (slv 3 0 i i), txB acc, rwB cFd ((Zl l).1), bxB 2 (fdC (((Zl l).1).getD i default)), hole]) rfl rfl rfl (by kernel_rfl) (by kernel_rfl) ?_
  refine Za (Zb (Zf ?_))
  refine Zg (p := pt 2 0) (v := slv 3 0 i i) rfl rfl rfl rfl ?_
  refine Zh (b := 5) (o := 0) (n := 1) (o' := 1) rfl rfl rfl rfl rfl ?_
  refine Zg (p := pt 5 1) (v := .string ((((Zl l).1).getD i default).data)) rfl rfl rfl (by kernel_rfl) ?_
  refine Zdd (vs := [(0, .string ((((Zl l).1).getD i default).data))]) (v := slv 6 0 1 1) (blk := txB [(((Zl l).1).getD i default).data]) (nid := 6) (H' := [rdB l, bxB 1 ([.bool true]), rfB (slv 3 0 i i), txB acc, rwB cFd ((Zl l).1), bxB 2 (fdC (((Zl l).1).getD i default)), txB [(((Zl l).1).getD i default).data]]) rfl rfl rfl (by kernel_rfl) (by kernel_rfl) ?_
  have hl4 : (acc ++ [(((Zl l).1).getD i default).data]).length = i + 1 := by have := ha; have := (rfl : _ = 1); first | (rw [List.length_append]; omega) | (simp; omega) | simp
  refine Za5 (p := slv 3 0 i i) (q := slv 6 0 1 1) (v := slv 3 0 (i + 1) (i + 1)) (b := 3) (blk := txB (acc ++ [(((Zl l).1).getD i default).data])) (H' := [rdB l, bxB 1 ([.bool true]), rfB (dead), txB (acc ++ [(((Zl l).1).getD i default).data]), rwB cFd ((Zl l).1), bxB 2 (fdC (((Zl l).1).getD i default)), txB [(((Zl l).1).getD i default).data]]) rfl rfl rfl (.inl ⟨_, rfl⟩) rfl rfl (Zht (by_ := 16) (k := 1) (n' := i + 1) (ms := [(((Zl l).1).getD i default).data]) rfl rfl (by kernel_rfl) rfl (by have := ha; omega) (by omega) (by decide) (by omega)) rfl (by kernel_rfl) ?_
  refine Zj (p := pt 2 0) (v := slv 3 0 (i + 1) (i + 1)) (b := 2) (blk := rfB (slv 3 0 (i + 1) (i + 1))) (H' := [rdB l, bxB 1 ([.bool true]), rfB (slv 3 0 (i + 1) (i + 1)), txB (acc ++ [(((Zl l).1).getD i default).data]), rwB cFd ((Zl l).1), bxB 2 (fdC (((Zl l).1).getD i default)), txB [(((Zl l).1).getD i default).data]]) rfl rfl rfl (by kernel_rfl) (by kernel_rfl) ?_
  refine Za (Zag (Zb (Zf ?_)))
  refine Zi (vx := Iv (i : Nat)) (vy := Iv 1) rfl rfl (Iv ((i : Nat) + 1)) rfl rfl (Zap (by omega) (by omega) (by omega)) ?_
  refine Zd rfl rfl (Iv ((i : Nat) + 1)) rfl (Za ?_)
  refine Zx ⟨((i + 1), true, (acc ++ [(((Zl l).1).getD i default).data])), ⟨Zi0 hR (by omega) (by simp only [*, Bool.true_and, Bool.false_and, eq_self, decide_true, decide_false]), by omega, by rw [List.length_append, ha]; rfl⟩, by show (Zl l).1.length - (i + 1) < (Zl l).1.length - i; omega, ?_⟩
  refine Z2 (n := 5) rfl ?_ (by kernel_rfl) (by kernel_rfl)
  repeat (first | exact trivial | refine ⟨.inl rfl, ?_⟩ | refine ⟨.inr ⟨rfl, rfl⟩, ?_⟩ | refine ⟨.inr ⟨congrArg (Value.int .i64) (by first | omega | (dsimp only; omega)), rfl⟩, ?_⟩)
  refine Zi (vx := Iv ((((Zl l).1).getD i default).tag)) (vy := Iv ((i : Nat) + 1)) (by exact congrArg (fun b => some (b == true)) h6) rfl (.bool false) rfl rfl (Zfc (by omega)) ?_
  refine Zp rfl rfl (.bool false) (by show some (if _ then _ else _) = _; rw [h6] <;> rfl) ?_
  refine Z7 (p := pt 1 0) (v := pt 1 0) rfl rfl rfl rfl ?_
  refine Zj (p := pt 1 0) (v := .bool false) (b := 1) (blk := bxB 1 ([.bool false])) (H' := [rdB l, bxB 1 ([.bool false]), rfB (slv 3 0 i i), txB acc, rwB cFd ((Zl l).1), bxB 2 (fdC (((Zl l).1).getD i default)), hole]) rfl rfl rfl (by kernel_rfl) (by kernel_rfl) ?_
  refine Za (Zb (Zf ?_))
  refine Zg (p := pt 2 0) (v := slv 3 0 i i) rfl rfl rfl rfl ?_
  refine Zh (b := 5) (o := 0) (n := 1) (o' := 1) rfl rfl rfl rfl rfl ?_
  refine Zg (p := pt 5 1) (v := .string ((((Zl l).1).getD i default).data)) rfl rfl rfl (by kernel_rfl) ?_
  refine Zdd (vs := [(0, .string ((((Zl l).1).getD i default).data))]) (v := slv 6 0 1 1) (blk := txB [(((Zl l).1).getD i default).data]) (nid := 6) (H' := [rdB l, bxB 1 ([.bool false]), rfB (slv 3 0 i i), txB acc, rwB cFd ((Zl l).1), bxB 2 (fdC (((Zl l).1).getD i default)), txB [(((Zl l).1).getD i default).data]]) rfl rfl rfl (by kernel_rfl) (by kernel_rfl) ?_
  have hl5 : (acc ++ [(((Zl l).1).getD i default).data]).length = i + 1 := by have := ha; have := (rfl : _ = 1); first | (rw [List.length_append]; omega) | (simp; omega) | simp
  refine Za5 (p := slv 3 0 i i) (q := slv 6 0 1 1) (v := slv 3 0 (i + 1) (i + 1)) (b := 3) (blk := txB (acc ++ [(((Zl l).1).getD i default).data])) (H' := [rdB l, bxB 1 ([.bool false]), rfB (dead), txB (acc ++ [(((Zl l).1).getD i default).data]), rwB cFd ((Zl l).1), bxB 2 (fdC (((Zl l).1).getD i default)), txB [(((Zl l).1).getD i default).data]]) rfl rfl rfl (.inl ⟨_, rfl⟩) rfl rfl (Zht (by_ := 16) (k := 1) (n' := i + 1) (ms := [(((Zl l).1).getD i default).data]) rfl rfl (by kernel_rfl) rfl (by have := ha; omega) (by omega) (by decide) (by omega)) rfl (by kernel_rfl) ?_
  refine Zj (p := pt 2 0) (v := slv 3 0 (i + 1) (i + 1)) (b := 2) (blk := rfB (slv 3 0 (i + 1) (i + 1))) (H' := [rdB l, bxB 1 ([.bool false]), rfB (slv 3 0 (i + 1) (i + 1)), txB (acc ++ [(((Zl l).1).getD i default).data]), rwB cFd ((Zl l).1), bxB 2 (fdC (((Zl l).1).getD i default)), txB [(((Zl l).1).getD i default).data]]) rfl rfl rfl (by kernel_rfl) (by kernel_rfl) ?_
  refine Za (Zag (Zb (Zf ?_)))
  refine Zi (vx := Iv (i : Nat)) (vy := Iv 1) rfl rfl (Iv ((i : Nat) + 1)) rfl rfl (Zap (by omega) (by omega) (by omega)) ?_
  refine Zd rfl rfl (Iv ((i : Nat) + 1)) rfl (Za ?_)
  refine Zx ⟨((i + 1), false, (acc ++ [(((Zl l).1).getD i default).data])), ⟨Zi0 hR (by omega) (by simp only [*, Bool.true_and, Bool.false_and, eq_self, decide_true, decide_false]), by omega, by rw [List.length_append, ha]; rfl⟩, by show (Zl l).1.length - (i + 1) < (Zl l).1.length - i; omega, ?_⟩
  refine Z2 (n := 5) rfl ?_ (by kernel_rfl) (by kernel_rfl)
  repeat (first | exact trivial | refine ⟨.inl rfl, ?_⟩ | refine ⟨.inr ⟨rfl, rfl⟩, ?_⟩ | refine ⟨.inr ⟨congrArg (Value.int .i64) (by first | omega | (dsimp only; omega)), rfl⟩, ?_⟩)
  refine Zn (by exact congrArg (fun b => some (b == true)) h6) rfl ?_
  refine Zn (by exact congrArg (fun b => some (b == true)) h6) rfl ?_
  refine Zn (by exact congrArg (fun b => some (b == true)) h6) rfl ?_
  refine Zn (by exact congrArg (fun b => some (b == true)) h6) rfl ?_
  refine Zn (by exact congrArg (fun b => some (b == true)) h6) rfl ?_
  refine Zp rfl rfl (.bool false) (by show some (if _ then _ else _) = _; rw [h6] <;> rfl) ?_
  refine Z7 (p := pt 1 0) (v := pt 1 0) rfl rfl rfl rfl ?_
  refine Zj (p := pt 1 0) (v := .bool false) (b := 1) (blk := bxB 1 ([.bool false])) (H' := [rdB l, bxB 1 ([.bool false]), rfB (slv 3 0 i i), txB acc, rwB cFd ((Zl l).1), bxB 2 (fdC (((Zl l).1).getD i default)), hole]) rfl rfl rfl (by kernel_rfl) (by kernel_rfl) ?_
  refine Za (Zb (Zf ?_))
  refine Zg (p := pt 2 0) (v := slv 3 0 i i) rfl rfl rfl rfl ?_
  refine Zh (b := 5) (o := 0) (n := 1) (o' := 1) rfl rfl rfl rfl rfl ?_
  refine Zg (p := pt 5 1) (v := .string ((((Zl l).1).getD i default).data)) rfl rfl rfl (by kernel_rfl) ?_
  refine Zdd (vs := [(0, .string ((((Zl l).1).getD i default).data))]) (v := slv 6 0 1 1) (blk := txB [(((Zl l).1).getD i default).data]) (nid := 6) (H' := [rdB l, bxB 1 ([.bool false]), rfB (slv 3 0 i i), txB acc, rwB cFd ((Zl l).1), bxB 2 (fdC (((Zl l).1).getD i default)), txB [(((Zl l).1).getD i default).data]]) rfl rfl rfl (by kernel_rfl) (by kernel_rfl) ?_
  have hl6 : (acc ++ [(((Zl l).1).getD i default).data]).length = i + 1 := by have := ha; have := (rfl : _ = 1); first | (rw [List.length_append]; omega) | (simp; omega) | simp
  refine Za5 (p := slv 3 0 i i) (q := slv 6 0 1 1) (v := slv 3 0 (i + 1) (i + 1)) (b := 3) (blk := txB (acc ++ [(((Zl l).1).getD i default).data])) (H' := [rdB l, bxB 1 ([.bool false]), rfB (dead), txB (acc ++ [(((Zl l).1).getD i default).data]), rwB cFd ((Zl l).1), bxB 2 (fdC (((Zl l).1).getD i default)), txB [(((Zl l).1).getD i default).data]]) rfl rfl rfl (.inl ⟨_, rfl⟩) rfl rfl (Zht (by_ := 16) (k := 1) (n' := i + 1) (ms := [(((Zl l).1).getD i default).data]) rfl rfl (by kernel_rfl) rfl (by have := ha; omega) (by omega) (by decide) (by omega)) rfl (by kernel_rfl) ?_
  refine Zj (p := pt 2 0) (v := slv 3 0 (i + 1) (i + 1)) (b := 2) (blk := rfB (slv 3 0 (i + 1) (i + 1))) (H' := [rdB l, bxB 1 ([.bool false]), rfB (slv 3 0 (i + 1) (i + 1)), txB (acc ++ [(((Zl l).1).getD i default).data]), rwB cFd ((Zl l).1), bxB 2 (fdC (((Zl l).1).getD i default)), txB [(((Zl l).1).getD i default).data]]) rfl rfl rfl (by kernel_rfl) (by kernel_rfl) ?_
  refine Za (Zag (Zb (Zf ?_)))
  refine Zi (vx := Iv (i : Nat)) (vy := Iv 1) rfl rfl (Iv ((i : Nat) + 1)) rfl rfl (Zap (by omega) (by omega) (by omega)) ?_
  refine Zd rfl rfl (Iv ((i : Nat) + 1)) rfl (Za ?_)
  refine Zx ⟨((i + 1), false, (acc ++ [(((Zl l).1).getD i default).data])), ⟨Zi0 hR (by omega) (by simp only [*, Bool.true_and, Bool.false_and, eq_self, decide_true, decide_false]), by omega, by rw [List.length_append, ha]; rfl⟩, by show (Zl l).1.length - (i + 1) < (Zl l).1.length - i; omega, ?_⟩
  refine Z2 (n := 5) rfl ?_ (by kernel_rfl) (by kernel_rfl)
  repeat (first | exact trivial | refine ⟨.inl rfl, ?_⟩ | refine ⟨.inr ⟨rfl, rfl⟩, ?_⟩ | refine ⟨.inr ⟨congrArg (Value.int .i64) (by first | omega | (dsimp only; omega)), rfl⟩, ?_⟩)
  refine Zi (vx := Iv (i : Nat)) (vy := Iv ((((Zl l).1.length) : Nat) : Int)) rfl rfl (.bool false) rfl rfl (Zbv (by omega)) ?_
  refine Za (Zb (Ze (Zr rfl (Zbx (Zay (Zav (Za2 rfl (Zb (Ze (Zf (Zc rfl rfl (pt 2 0) rfl (Za (Zb (Zw (Zy ?_)))))))))))))))
  have hR' : ofF l = (okv, acc) := by unfold ofF; rw [← hR, List.drop_of_length_le (by omega)]; rfl
  rw [hR']
  rw [show (okv, acc).2.length = i from ha]
  exact Zo (v := pt 2 0) rfl rfl rfl (by simp [Za1, rdB, bxB, rfB, txB, Zhk, Zdz]) ⟨rfl, rfl⟩
end Go.Flat
namespace Go.Flat
open Go.Proofs
variable {G : Glob}
def nxP (L p : Nat) : Nat := if p < L then p + 1 else p
def Z3 (L p : Nat) : Nat := L - p
theorem Zew {L p : Nat} (h : p ≤ L) : Z3 L p + p = L := by unfold Z3; omega
theorem Zv7 {L p : Nat} (h : p ≤ L) : nxP L p ≤ L := by unfold nxP; split <;> omega
theorem Z1a {ls : List ByteArray} {p : Nat} (h : ls.length ≤ p) : ls.getD p ⟨#[]⟩ = ⟨#[]⟩ := by rw [List.getD_eq_getElem?_getD, List.getElem?_eq_none h]; rfl
theorem Zsu (ls : List ByteArray) (L p : Nat) (ok : Bool) (hL : ls.length = L) (hp : p ≤ L) : Zac Tryd.prog G 33 [pt 0 0, pt 2 0] [rfB (slv 1 p (Z3 L p) (Z3 L p)), Za8 ls, bxB 1 ([.bool ok])] (.string (ls.getD p ⟨#[]⟩)) [rfB (slv 1 (nxP L p) (Z3 L (nxP L p)) (Z3 L (nxP L p))), Za8 ls, bxB 1 [.bool (ok && decide (p < L))]] := by
 have hr : Z3 L p + p = L := Zew hp
 refine Zb8 (fn := Tryd.f33) (nt := 25) rfl rfl rfl rfl ?_
 refine Ze (Zf (Zc rfl rfl (.string ⟨#[]⟩) rfl (Za (Zb (Ze (Ze (Zf (Zd rfl rfl (pt 0 0) rfl ?_))))))))
 refine Z7 (p := pt 0 0) (v := pt 0 0) rfl rfl rfl rfl ?_
 refine Zg (p := pt 0 0) (v := slv 1 p (Z3 L p) (Z3 L p)) rfl rfl rfl rfl ?_
 refine Za6 (p := slv 1 p (Z3 L p) (Z3 L p)) (v := Iv (((Z3 L p) : Nat) : Int)) rfl rfl rfl rfl ?_
 by_cases h1 : (((Z3 L p) : Nat) : Int) = 0
 refine Zi (vx := Iv (((Z3 L p) : Nat) : Int)) (vy := Iv 0) rfl rfl (.bool true) rfl rfl (Zd2 (by omega)) ?_
 refine Za (Zb (Zu rfl (Ze (Zf (Zd rfl rfl (pt 2 0) rfl ?_)))))
 refine Z7 (p := pt 2 0) (v := pt 2 0) rfl rfl rfl rfl ?_
 refine Zj (p := pt 2 0) (v := .bool false) (b := 2) (blk := bxB 1 ([.bool false])) (H' := [rfB (slv 1 p (Z3 L p) (Z3 L p)), Za8 ls, bxB 1 ([.bool false])]) rfl rfl rfl (by kernel_rfl) (by kernel_rfl) ?_
 refine Za (Zb (Ze (Zf (Zc rfl rfl (.string ⟨#[]⟩) rfl (Za (Zb (Zw (Zaj (Zy ?_)))))))))
 rw [show nxP L p = p from if_neg (by omega), show (ok && decide (p < L)) = false from by rw [decide_eq_false (by omega), Bool.and_false], Z1a (by omega)]
 exact Zo (v := .string ⟨#[]⟩) rfl rfl rfl (by simp [Za1, Za8, bxB, rfB, Zhk, Zdz]) rfl
 refine Zi (vx := Iv (((Z3 L p) : Nat) : Int)) (vy := Iv 0) rfl rfl (.bool false) rfl rfl (Zfc (by omega)) ?_
 refine Za (Zb (Zr rfl (Z0 (Zb (Ze (Zf (Zd rfl rfl (pt 0 0) rfl ?_)))))))
 refine Z7 (p := pt 0 0) (v := pt 0 0) rfl rfl rfl rfl ?_
 refine Zg (p := pt 0 0) (v := slv 1 p (Z3 L p) (Z3 L p)) rfl rfl rfl rfl ?_
 refine Zbe (b := 1) (o := p) (j := p) (m := (Z3 L p)) (c := (Z3 L p)) (sz := 1) (i := 0) (k := .i64) rfl rfl rfl rfl rfl (by omega) (by omega) (by omega) ?_
 refine Zg (p := pt 1 p) (v := .string (ls.getD p ⟨#[]⟩)) rfl rfl rfl (Zof rfl rfl rfl (by have := hL; omega)) ?_
 refine Zc rfl rfl (.string (ls.getD p ⟨#[]⟩)) rfl (Za (Zb (Ze (Zf (Zd rfl rfl (pt 0 0) rfl (Zd rfl rfl (pt 0 0) rfl ?_))))))
 refine Z7 (p := pt 0 0) (v := pt 0 0) rfl rfl rfl rfl ?_
 refine Zg (p := pt 0 0) (v := slv 1 p (Z3 L p) (Z3 L p)) rfl rfl rfl rfl ?_
 refine Zci (p := slv 1 p (Z3 L p) (Z3 L p)) (vl := some (Iv 1)) (vh := none) (v := slv 1 (p + 1) ((Z3 L p) - 1) ((Z3 L p) - 1)) rfl rfl rfl rfl rfl (Zhn (sz := 1) (l := 1) rfl rfl rfl (by omega) (by omega) (by omega) rfl (by omega) (by omega) (by omega)) ?_
 refine Z7 (p := pt 0 0) (v := pt 0 0) rfl rfl rfl rfl ?_
 refine Zj (p := pt 0 0) (v := slv 1 (p + 1) ((Z3 L p) - 1) ((Z3 L p) - 1)) (b := 0) (blk := rfB (slv 1 (p + 1) ((Z3 L p) - 1) ((Z3 L p) - 1))) (H' := [rfB (slv 1 (p + 1) ((Z3 L p) - 1) ((Z3 L p) - 1)), Za8 ls, bxB 1 ([.bool ok])]) rfl rfl rfl (by kernel_rfl) (by kernel_rfl) ?_
 refine Za (Zb (Ze (Zf (Zd rfl rfl (.string (ls.getD p ⟨#[]⟩)) rfl (Zc rfl rfl (.string (ls.getD p ⟨#[]⟩)) rfl (Za (Zb (Zw (Zy ?_)))))))))
 rw [show nxP L p = p + 1 from if_pos (by omega), show Z3 L (p + 1) = Z3 L p - 1 from by unfold Z3; omega, show (ok && decide (p < L)) = ok from by rw [decide_eq_true (by omega), Bool.and_true]]
 exact Zo (v := .string (ls.getD p ⟨#[]⟩)) rfl rfl rfl (by simp [Za1, Za8, bxB, rfB, Zhk, Zdz]) rfl
theorem Ziz (ls : List ByteArray) (L p : Nat) (ok : Bool) (hL : ls.length = L) (hp : p ≤ L) : Zac Tryd.prog G 34 [pt 0 0, pt 2 0] [rfB (slv 1 p (Z3 L p) (Z3 L p)), Za8 ls, bxB 1 ([.bool ok])] (Iv (Zk (ls.getD p ⟨#[]⟩)).1) [rfB (slv 1 (nxP L p) (Z3 L (nxP L p)) (Z3 L (nxP L p))), Za8 ls, bxB 1 [.bool ((ok && decide (p < L)) && decide ((Zk (ls.getD p ⟨#[]⟩)).2 = 0))]] := by
 refine Zb8 (fn := Tryd.f34) (nt := 24) rfl rfl rfl rfl ?_
 refine Ze (Zf (Zc rfl rfl (Iv 0) rfl (Za (Zb (Ze (Zf (Zd rfl rfl (pt 0 0) rfl (Zd rfl rfl (pt 2 0) rfl ?_))))))))
 have hnx2 := Zv7 (L := L) (p := p) (by omega)
 refine Zab (e := [some (0, 0), some (1, 0), some (2, 0)]) (nid := 0) (Zsu (G := G) ls L p ok hL (by omega)) (vals := [pt 0 0, pt 2 0]) (v := .string (ls.getD p ⟨#[]⟩)) (H' := [rfB (slv 1 (nxP L p) (Z3 L (nxP L p)) (Z3 L (nxP L p))), Za8 ls, bxB 1 ([.bool (ok && decide (p < L))])]) rfl rfl rfl rfl rfl rfl rfl ⟨⟨⟨rfl, rfl⟩, ⟨rfl, rfl⟩, trivial⟩, ⟨(Zal rfl rfl rfl (by show [_] = [Zdr _ _]; simp [Zdr, Zck])), (Zsj rfl), (Zal rfl rfl rfl rfl), trivial⟩, rfl, rfl, rfl⟩ rfl (Eq.trans (b := [rfB (slv 1 (0 + (nxP L p)) (Z3 L (nxP L p)) (Z3 L (nxP L p))), Za8 ls, bxB 1 ([.bool (ok && decide (p < L))])]) (by kernel_rfl) (by rw [Nat.zero_add])) ?_
 refine Zv (Z0k (G := G) (ls.getD p ⟨#[]⟩)) (vals := [.string (ls.getD p ⟨#[]⟩)]) (res' := .tuple #[Iv ((Zk (ls.getD p ⟨#[]⟩)).1), Iv ((Zk (ls.getD p ⟨#[]⟩)).2)]) rfl rfl rfl rfl rfl (by kernel_rfl) ?_
 refine Zd rfl rfl (.tuple #[Iv ((Zk (ls.getD p ⟨#[]⟩)).1), Iv ((Zk (ls.getD p ⟨#[]⟩)).2)]) rfl (Z5 (vs := #[Iv ((Zk (ls.getD p ⟨#[]⟩)).1), Iv ((Zk (ls.getD p ⟨#[]⟩)).2)]) (v := Iv ((Zk (ls.getD p ⟨#[]⟩)).1)) rfl rfl rfl rfl (Z5 (vs := #[Iv ((Zk (ls.getD p ⟨#[]⟩)).1), Iv ((Zk (ls.getD p ⟨#[]⟩)).2)]) (v := Iv ((Zk (ls.getD p ⟨#[]⟩)).2)) rfl rfl rfl rfl (Zc rfl rfl (Iv ((Zk (ls.getD p ⟨#[]⟩)).1)) rfl (Zc rfl rfl (Iv ((Zk (ls.getD p ⟨#[]⟩)).2)) rfl (Za (Zb (Ze (Zf (Zd rfl rfl (pt 2 0) rfl (Zd rfl rfl (pt 2 0) rfl ?_))))))))))
 refine Z7 (p := pt 2 0) (v := pt 2 0) rfl rfl rfl rfl ?_
 refine Zg (p := pt 2 0) (v := .bool (ok && decide (p < L))) rfl rfl rfl (by kernel_rfl) ?_
 refine Zd rfl rfl (.bool (ok && decide (p < L))) rfl ?_
 rcases Bool.eq_false_or_eq_true (ok && decide (p < L)) with h1 | h1
 refine Zd (by exact congrArg (fun b => some (b == true)) h1) rfl (Iv ((Zk (ls.getD p ⟨#[]⟩)).2)) rfl ?_
 by_cases h2 : ((Zk (ls.getD p ⟨#[]⟩)).2) = 0
 refine Zi (vx := Iv ((Zk (ls.getD p ⟨#[]⟩)).2)) (vy := Iv 0) (by exact congrArg (fun b => some (b == true)) h1) rfl (.bool true) rfl rfl (Zd2 (by omega)) ?_
 refine Zp rfl rfl (.bool true) (by show some (if _ then _ else _) = _; rw [h1] <;> rfl) ?_
 refine Z7 (p := pt 2 0) (v := pt 2 0) rfl rfl rfl rfl ?_
 refine Zj (p := pt 2 0) (v := .bool true) (b := 2) (blk := bxB 1 ([.bool true])) (H' := [rfB (slv 1 (nxP L p) (Z3 L (nxP L p)) (Z3 L (nxP L p))), Za8 ls, bxB 1 ([.bool true])]) rfl rfl rfl (by kernel_rfl) (by kernel_rfl) ?_
 refine Za (Zb (Ze (Zf (Zd rfl rfl (Iv ((Zk (ls.getD p ⟨#[]⟩)).1)) rfl (Zc rfl rfl (Iv ((Zk (ls.getD p ⟨#[]⟩)).1)) rfl (Za (Zb (Zw (Zy ?_)))))))))
 rw [show ((ok && decide (p < L)) && decide ((Zk (ls.getD p ⟨#[]⟩)).2 = 0)) = true from by simp only [*, Bool.true_and, Bool.false_and, eq_self, decide_true, decide_false]]
 exact Zo (v := Iv ((Zk (ls.getD p ⟨#[]⟩)).1)) rfl rfl rfl (by simp [Za1, Za8, bxB, rfB, Zhk, Zdz]) rfl
 refine Zi (vx := Iv ((Zk (ls.getD p ⟨#[]⟩)).2)) (vy := Iv 0) (by exact congrArg (fun b => some (b == true)) h1) rfl (.bool false) rfl rfl (Zfc (by omega)) ?_
 refine Zp rfl rfl (.bool false) (by show some (if _ then _ else _) = _; rw [h1] <;> rfl) ?_
 refine Z7 (p := pt 2 0) (v := pt 2 0) rfl rfl rfl rfl ?_
 refine Zj (p := pt 2 0) (v := .bool false) (b := 2) (blk := bxB 1 ([.bool false])) (H' := [rfB (slv 1 (nxP L p) (Z3 L (nxP L p)) (Z3 L (nxP L p))), Za8 ls, bxB 1 ([.bool false])]) rfl rfl rfl (by kernel_rfl) (by kernel_rfl) ?_
 refine Za (Zb (Ze (Zf (Zd rfl rfl (Iv ((Zk (ls.getD p ⟨#[]⟩)).1)) rfl (Zc rfl rfl (Iv ((Zk (ls.getD p ⟨#[]⟩)).1)) rfl (Za (Zb (Zw (Zy ?_)))))))))
 rw [show ((ok && decide (p < L)) && decide ((Zk (ls.getD p ⟨#[]⟩)).2 = 0)) = false from by simp only [*, Bool.true_and, Bool.false_and, eq_self, decide_true, decide_false]]
 exact Zo (v := Iv ((Zk (ls.getD p ⟨#[]⟩)).1)) rfl rfl rfl (by simp [Za1, Za8, bxB, rfB, Zhk, Zdz]) rfl
 refine Zn (by exact congrArg (fun b => some (b == true)) h1) rfl ?_
 refine Zn (by exact congrArg (fun b => some (b == true)) h1) rfl ?_
 refine Zp rfl rfl (.bool false) (by show some (if _ then _ else _) = _; rw [h1] <;> rfl) ?_
 refine Z7 (p := pt 2 0) (v := pt 2 0) rfl rfl rfl rfl ?_
 refine Zj (p := pt 2 0) (v := .bool false) (b := 2) (blk := bxB 1 ([.bool false])) (H' := [rfB (slv 1 (nxP L p) (Z3 L (nxP L p)) (Z3 L (nxP L p))), Za8 ls, bxB 1 ([.bool false])]) rfl rfl rfl (by kernel_rfl) (by kernel_rfl) ?_
 refine Za (Zb (Ze (Zf (Zd rfl rfl (Iv ((Zk (ls.getD p ⟨#[]⟩)).1)) rfl (Zc rfl rfl (Iv ((Zk (ls.getD p ⟨#[]⟩)).1)) rfl (Za (Zb (Zw (Zy ?_)))))))))
 rw [show ((ok && decide (p < L)) && decide ((Zk (ls.getD p ⟨#[]⟩)).2 = 0)) = false from by simp only [*, Bool.true_and, Bool.false_and, eq_self, decide_true, decide_false]]
 exact Zo (v := Iv ((Zk (ls.getD p ⟨#[]⟩)).1)) rfl rfl rfl (by simp [Za1, Za8, bxB, rfB, Zhk, Zdz]) rfl
end Go.Flat
