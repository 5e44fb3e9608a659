/- Walks. -/
import Derived.Test.YtoheeojjdpdljaaDoorH15
set_option linter.unusedVariables false
set_option linter.unusedSimpArgs false
set_option maxRecDepth 20000
namespace Go.Flat
open Go.Proofs
variable {G : Glob}
theorem Z1o (l : Bs) (n c : Nat) (hn : l.length = n) (hc : n ≤ c) (hb : n ≤ 1099511627776) : Zao Tryd.prog G 67 [slv 0 0 n c] [rdB l] (.tuple #[slv 1 0 (Zh l).1.length (Zh l).1.length, Iv (Zh l).2]) [rdB l, rwB cFd (Zh l).1] := by
 subst hn; exact Zof (G := G) l c hc hb
theorem Zq1 : ∀ (f : Nat) (l : Bs) (last : Int) (acc : List Field), (Zde f l last acc).1.length ≤ acc.length + l.length
 | 0, l, last, acc => by simp [Zde]
 | f + 1, l, last, acc => by
  rw [Zde]
  split
  ·simp
  ·split
   ·simp
   ·split
    ·simp
    ·rename_i h0 h1 h2
     have h3 := Zg7 (l := l) (n := l.length) (by omega)
     have := Zq1 f (l.drop (Za2 l l.length).2.1.toNat) (Za2 l l.length).1.tag (acc ++ [(Za2 l l.length).1])
     rw [List.length_append, List.length_drop] at this
     simp only [List.length_cons, List.length_nil] at this
     omega
theorem Zna (l : Bs) : (Zh l).1.length ≤ l.length := by
 have := Zq1 (l.length + 1) l 0 []
 simpa [Zh] using this
def ofL : List Field → Nat → Bool → List ByteArray → Bool × List ByteArray
  | [], _, ok, acc => (ok, acc)
  | f :: fs, i, ok, acc => ofL fs (i + 1) (ok && decide (f.tag = (i : Int) + 1)) (acc ++ [f.data])
def ofF (l : Bs) : Bool × List ByteArray := ofL (Zh l).1 0 (decide ((Zh l).2 = 0)) []
theorem Zhy {fs : List Field} {i : Nat} {ok ok' : Bool} {acc : List ByteArray} {R : Bool × List ByteArray} (hR : ofL (fs.drop i) i ok acc = R) (hi : i < fs.length) (h : (ok && decide ((fs.getD i default).tag = (i : Int) + 1)) = ok') : ofL (fs.drop (i + 1)) (i + 1) ok' (acc ++ [(fs.getD i default).data]) = R := by
 subst h
 rw [Zgl hi, ofL] at hR
 exact hR
theorem Z5f (l : Bs) (c : Nat) (ok0 : Bool) (hc : l.length ≤ c) (hb : l.length ≤ 1099511627776) : Zao Tryd.prog G 70 [slv 0 0 l.length c, pt 1 0] [rdB l, bxB 1 ([.bool ok0])] (pt 2 0) [rdB l, bxB 1 [.bool (ofF l).1], rfB (slv 3 0 (ofF l).2.length (ofF l).2.length), txB (ofF l).2] := by
  refine Zbv (fn := Tryd.f70) (nt := 44) rfl rfl rfl rfl ?_
  refine Zat 3 (H' := [rdB l, bxB 1 ([.bool ok0]), hole, hole, hole]) rfl ?_
  refine Zg (Zi (Zb rfl rfl (.pointer none) rfl (Za (Zc (Zg (Zi (Zd rfl rfl (slv 0 0 l.length c) rfl ?_)))))))
  refine Zad (e := [some (0, 0)]) (nid := 4) (Z1o (G := G) l l.length c (rfl : l.length = l.length) (by omega) (by omega)) (vals := [slv 0 0 l.length c]) (v := .tuple #[slv 4 0 ((Zh l).1.length) ((Zh l).1.length), Iv ((Zh l).2)]) (H' := [rdB l, bxB 1 ([.bool ok0]), hole, hole, rwB cFd ((Zh l).1)]) rfl rfl rfl rfl rfl rfl rfl ⟨⟨⟨rfl, rfl, rfl, by first | omega | exact Nat.le_refl _, by first | omega | exact Nat.le_refl _⟩, trivial⟩, ⟨(Zdk rfl), trivial⟩, rfl, rfl, rfl⟩ (by kernel_rfl) (by kernel_rfl) ?_
  refine Zd rfl rfl (.tuple #[slv 4 0 ((Zh l).1.length) ((Zh l).1.length), Iv ((Zh l).2)]) rfl (Zt (vs := #[slv 4 0 ((Zh l).1.length) ((Zh l).1.length), Iv ((Zh l).2)]) (v := slv 4 0 ((Zh l).1.length) ((Zh l).1.length)) rfl rfl rfl rfl (Zt (vs := #[slv 4 0 ((Zh l).1.length) ((Zh l).1.length), Iv ((Zh l).2)]) (v := Iv ((Zh l).2)) rfl rfl rfl rfl (Zb rfl rfl (slv 4 0 ((Zh l).1.length) ((Zh l).1.length)) rfl (Zb rfl rfl (Iv ((Zh l).2)) rfl (Za (Zc (Zg (Zi (Zd rfl rfl (pt 1 0) rfl (Zd rfl rfl (Iv ((Zh l).2)) rfl ?_))))))))))
  by_cases h1 : ((Zh l).2) = 0
  refine Zn (vx := Iv ((Zh l).2)) (vy := Iv 0) rfl rfl (.bool true) rfl rfl (Zbs (by omega)) ?_
  refine Zag (p := pt 1 0) (v := pt 1 0) rfl rfl rfl rfl ?_
  refine Zr (p := pt 1 0) (v := .bool true) (b := 1) (blk := bxB 1 ([.bool true])) (H' := [rdB l, bxB 1 ([.bool true]), hole, hole, rwB cFd ((Zh l).1)]) rfl rfl rfl (by kernel_rfl) (by kernel_rfl) ?_
  refine Za (Zc (Zg (Zi ?_)))
  refine Zae (b := rfB (.slice none 0 0)) (nid := 2) (H' := [rdB l, bxB 1 ([.bool true]), rfB (.slice none 0 0), hole, rwB cFd ((Zh l).1)]) rfl rfl (by kernel_rfl) (by kernel_rfl) ?_
  refine Za (Zc (Zg (Zg ?_)))
  have hrl := Zna l
  refine Zcw (Zcq.nilCell (k := 2) (j := 0) (b := 3) true 1 rfl (by decide) rfl (by show 0 < 1; decide) rfl rfl) ?_
  refine Zi (Zd rfl rfl (slv 4 0 ((Zh l).1.length) ((Zh l).1.length)) rfl ?_)
  refine Zb7 (p := slv 4 0 ((Zh l).1.length) ((Zh l).1.length)) (v := Iv ((((Zh l).1.length) : Nat) : Int)) rfl rfl rfl rfl ?_
  refine Zd rfl rfl (Iv 0) rfl (Za (Zc (Zap ?_)))
  refine Zb8 (fun x : Nat × Bool × (List ByteArray) => match x with | (i, okv, acc) => [slv 0 0 l.length c, pt 1 0, dead, dead, .pointer none, slv 4 0 ((Zh l).1.length) ((Zh l).1.length), Iv ((Zh l).2), pt 2 0, dead, dead, .tuple #[slv 4 0 ((Zh l).1.length) ((Zh l).1.length), Iv ((Zh l).2)], slv 0 0 l.length c, .tuple #[slv 4 0 ((Zh l).1.length) ((Zh l).1.length), Iv ((Zh l).2)], slv 4 0 ((Zh l).1.length) ((Zh l).1.length), Iv ((Zh l).2), pt 1 0, Iv ((Zh l).2), .bool true, pt 1 0, slv 4 0 ((Zh l).1.length) ((Zh l).1.length), Iv ((((Zh l).1.length) : Nat) : Int), Iv (i : Nat)]) (fun x : Nat × Bool × (List ByteArray) => match x with | (i, okv, acc) => [rdB l, bxB 1 ([.bool okv]), rfB (slv 3 0 i i), txB acc, rwB cFd ((Zh l).1)]) (fun x : Nat × Bool × (List ByteArray) => match x with | (i, okv, acc) => ofL ((Zh l).1.drop i) i okv acc = ofL (Zh l).1 0 (decide ((Zh l).2 = 0)) [] ∧ i ≤ (Zh l).1.length ∧ acc.length = i) (fun x : Nat × Bool × (List ByteArray) => match x with | (i, okv, acc) => (Zh l).1.length - i) (0, true, []) ⟨by simp [*], by omega, rfl⟩ ?_ ?_
  · refine Zaq (n := 5) rfl ?_ (by kernel_rfl) (by kernel_rfl)
    repeat (first | exact trivial | refine ⟨.inl rfl, ?_⟩ | refine ⟨.inr ⟨rfl, rfl⟩, ?_⟩ | refine ⟨.inr ⟨congrArg (Value.int .i64) (by first | omega | (dsimp only; omega)), rfl⟩, ?_⟩)
  rintro ⟨i, okv, acc⟩ ⟨hR, hi, ha⟩
  dsimp only at *
  refine Zat 2 (H' := [rdB l, bxB 1 ([.bool okv]), rfB (slv 3 0 i i), txB acc, rwB cFd ((Zh l).1), hole, hole]) rfl ?_
  refine Zg (Zi ?_)
  by_cases h2 : (i : Nat) < ((((Zh l).1.length) : Nat) : Int)
  refine Zn (vx := Iv (i : Nat)) (vy := Iv ((((Zh l).1.length) : Nat) : Int)) rfl rfl (.bool true) rfl rfl (Zdt (by omega)) ?_
  refine Za (Zc (Zg (Z0 rfl (Zai (Zc (Zg (Zap (Zg (Zi (Zd rfl rfl (Iv (i : Nat)) rfl ?_))))))))))
  refine Zbk (b := 4) (o := 0) (j := i * 2) (m := ((Zh l).1.length)) (c := ((Zh l).1.length)) (sz := 2) (i := (i : Nat)) (k := .i64) rfl rfl rfl rfl rfl (by omega) (by omega) (by omega) ?_
  refine Zo (p := pt 4 (i * 2)) (v := fdV (((Zh l).1).getD i default)) rfl rfl rfl (Zk0 (n := 0) (m := 2) cFd rfl rfl rfl rfl (by omega) (by omega)) ?_
  refine Zae (b := bxB 2 (fdC (⟨0, ⟨#[]⟩⟩ : Field))) (nid := 5) (H' := [rdB l, bxB 1 ([.bool okv]), rfB (slv 3 0 i i), txB acc, rwB cFd ((Zh l).1), bxB 2 (fdC (⟨0, ⟨#[]⟩⟩ : Field)), hole]) rfl rfl (by kernel_rfl) (by kernel_rfl) ?_
  refine Zb rfl rfl (Iv (i : Nat)) rfl ?_
  refine Zr (p := pt 5 0) (v := fdV (((Zh l).1).getD i default)) (b := 5) (blk := bxB 2 (fdC (((Zh l).1).getD i default))) (H' := [rdB l, bxB 1 ([.bool okv]), rfB (slv 3 0 i i), txB acc, rwB cFd ((Zh l).1), bxB 2 (fdC (((Zh l).1).getD i default)), hole]) rfl rfl rfl (by kernel_rfl) (by kernel_rfl) ?_
  refine Za (Zc (Zg (Zi (Zd rfl rfl (pt 1 0) rfl (Zd rfl rfl (pt 1 0) rfl ?_)))))
  refine Zag (p := pt 1 0) (v := pt 1 0) rfl rfl rfl rfl ?_
  refine Zo (p := pt 1 0) (v := .bool okv) rfl rfl rfl (by kernel_rfl) ?_
  refine Zd rfl rfl (.bool okv) rfl ?_
  rcases Bool.eq_false_or_eq_true okv with h3 | h3
  refine Zj (b := 5) (o := 0) (n := 0) (o' := 0) (by exact congrArg (fun b => some (b == true)) h3) rfl rfl rfl rfl ?_
  refine Zo (p := pt 5 0) (v := Iv ((((Zh l).1).getD i default).tag)) (by exact congrArg (fun b => some (b == true)) h3) rfl rfl (by kernel_rfl) ?_
  refine Zd (by exact congrArg (fun b => some (b == true)) h3) rfl (Iv (i : Nat)) rfl ?_
  refine Zn (vx := Iv (i : Nat)) (vy := Iv 1) (by exact congrArg (fun b => some (b == true)) h3) rfl (Iv ((i : Nat) + 1)) rfl rfl (Za7 (by omega) (by omega) (by omega)) ?_
  by_cases h4 : ((((Zh l).1).getD i default).tag) = (i : Nat) + 1
  refine Zn (vx := Iv ((((Zh l).1).getD i default).tag)) (vy := Iv ((i : Nat) + 1)) (by exact congrArg (fun b => some (b == true)) h3) rfl (.bool true) rfl rfl (Zbs (by omega)) ?_
  refine Zk rfl rfl (.bool true) (by show some (if _ then _ else _) = _; rw [h3] <;> rfl) ?_
  refine Zag (p := pt 1 0) (v := pt 1 0) rfl rfl rfl rfl ?_
  refine Zr (p := pt 1 0) (v := .bool true) (b := 1) (blk := bxB 1 ([.bool true])) (H' := [rdB l, bxB 1 ([.bool true]), rfB (slv 3 0 i i), txB acc, rwB cFd ((Zh l).1), bxB 2 (fdC (((Zh l).1).getD i default)), hole]) rfl rfl rfl (by kernel_rfl) (by kernel_rfl) ?_
  refine Za (Zc (Zi ?_))
  refine Zo (p := pt 2 0) (v := slv 3 0 i i) rfl rfl rfl rfl ?_
  refine Zj (b := 5) (o := 0) (n := 1) (o' := 1) rfl rfl rfl rfl rfl ?_
  refine Zo (p := pt 5 1) (v := .string ((((Zh l).1).getD i default).data)) rfl rfl rfl (by kernel_rfl) ?_
  refine Zd5 (vs := [(0, .string ((((Zh l).1).getD i default).data))]) (v := slv 6 0 1 1) (blk := txB [(((Zh l).1).getD i default).data]) (nid := 6) (H' := [rdB l, bxB 1 ([.bool true]), rfB (slv 3 0 i i), txB acc, rwB cFd ((Zh l).1), bxB 2 (fdC (((Zh l).1).getD i default)), txB [(((Zh l).1).getD i default).data]]) rfl rfl rfl (by kernel_rfl) (by kernel_rfl) ?_
  have hl1 : (acc ++ [(((Zh l).1).getD i default).data]).length = i + 1 := by have := ha; have := (rfl : _ = 1); first | (rw [List.length_append]; omega) | (simp; omega) | simp
  refine Zbz (p := slv 3 0 i i) (q := slv 6 0 1 1) (v := slv 3 0 (i + 1) (i + 1)) (b := 3) (blk := txB (acc ++ [(((Zh l).1).getD i default).data])) (H' := [rdB l, bxB 1 ([.bool true]), rfB (dead), txB (acc ++ [(((Zh l).1).getD i default).data]), rwB cFd ((Zh l).1), bxB 2 (fdC (((Zh l).1).getD i default)), txB [(((Zh l).1).getD i default).data]]) rfl rfl rfl (.inl ⟨_, rfl⟩) rfl rfl (Zhf (by_ := 16) (k := 1) (n' := i + 1) (ms := [(((Zh l).1).getD i default).data]) rfl rfl (by kernel_rfl) rfl (by have := ha; omega) (by omega) (by decide) (by omega)) rfl (by kernel_rfl) ?_
  refine Zr (p := pt 2 0) (v := slv 3 0 (i + 1) (i + 1)) (b := 2) (blk := rfB (slv 3 0 (i + 1) (i + 1))) (H' := [rdB l, bxB 1 ([.bool true]), rfB (slv 3 0 (i + 1) (i + 1)), txB (acc ++ [(((Zh l).1).getD i default).data]), rwB cFd ((Zh l).1), bxB 2 (fdC (((Zh l).1).getD i default)), txB [(((Zh l).1).getD i default).data]]) rfl rfl rfl (by kernel_rfl) (by kernel_rfl) ?_
  refine Za (Z1 (Zc (Zi ?_)))
  refine Zn (vx := Iv (i : Nat)) (vy := Iv 1) rfl rfl (Iv ((i : Nat) + 1)) rfl rfl (Za7 (by omega) (by omega) (by omega)) ?_
  refine Zd rfl rfl (Iv ((i : Nat) + 1)) rfl (Za ?_)
  refine Zau ⟨((i + 1), true, (acc ++ [(((Zh l).1).getD i default).data])), ⟨Zhy hR (by omega) (by simp only [*, Bool.true_and, Bool.false_and, eq_self, decide_true, decide_false]), by omega, by rw [List.length_append, ha]; rfl⟩, by show (Zh l).1.length - (i + 1) < (Zh l).1.length - i; omega, ?_⟩
  refine Zaq (n := 5) rfl ?_ (by kernel_rfl) (by kernel_rfl)
  repeat (first | exact trivial | refine ⟨.inl rfl, ?_⟩ | refine ⟨.inr ⟨rfl, rfl⟩, ?_⟩ | refine ⟨.inr ⟨congrArg (Value.int .i64) (by first | omega | (dsimp only; omega)), rfl⟩, ?_⟩)
  refine Zn (vx := Iv ((((Zh l).1).getD i default).tag)) (vy := Iv ((i : Nat) + 1)) (by exact congrArg (fun b => some (b == true)) h3) rfl (.bool false) rfl rfl (Zb6 (by omega)) ?_
  refine Zk rfl rfl (.bool false) (by show some (if _ then _ else _) = _; rw [h3] <;> rfl) ?_
  refine Zag (p := pt 1 0) (v := pt 1 0) rfl rfl rfl rfl ?_
  refine Zr (p := pt 1 0) (v := .bool false) (b := 1) (blk := bxB 1 ([.bool false])) (H' := [rdB l, bxB 1 ([.bool false]), rfB (slv 3 0 i i), txB acc, rwB cFd ((Zh l).1), bxB 2 (fdC (((Zh l).1).getD i default)), hole]) rfl rfl rfl (by kernel_rfl) (by kernel_rfl) ?_
  refine Za (Zc (Zi ?_))
  refine Zo (p := pt 2 0) (v := slv 3 0 i i) rfl rfl rfl rfl ?_
  refine Zj (b := 5) (o := 0) (n := 1) (o' := 1) rfl rfl rfl rfl rfl ?_
  refine Zo (p := pt 5 1) (v := .string ((((Zh l).1).getD i default).data)) rfl rfl rfl (by kernel_rfl) ?_
  refine Zd5 (vs := [(0, .string ((((Zh l).1).getD i default).data))]) (v := slv 6 0 1 1) (blk := txB [(((Zh l).1).getD i default).data]) (nid := 6) (H' := [rdB l, bxB 1 ([.bool false]), rfB (slv 3 0 i i), txB acc, rwB cFd ((Zh l).1), bxB 2 (fdC (((Zh l).1).getD i default)), txB [(((Zh l).1).getD i default).data]]) rfl rfl rfl (by kernel_rfl) (by kernel_rfl) ?_
  have hl2 : (acc ++ [(((Zh l).1).getD i default).data]).length = i + 1 := by have := ha; have := (rfl : _ = 1); first | (rw [List.length_append]; omega) | (simp; omega) | simp
  refine Zbz (p := slv 3 0 i i) (q := slv 6 0 1 1) (v := slv 3 0 (i + 1) (i + 1)) (b := 3) (blk := txB (acc ++ [(((Zh l).1).getD i default).data])) (H' := [rdB l, bxB 1 ([.bool false]), rfB (dead), txB (acc ++ [(((Zh l).1).getD i default).data]), rwB cFd ((Zh l).1), bxB 2 (fdC (((Zh l).1).getD i default)), txB [(((Zh l).1).getD i default).data]]) rfl rfl rfl (.inl ⟨_, rfl⟩) rfl rfl (Zhf (by_ := 16) (k := 1) (n' := i + 1) (ms := [(((Zh l).1).getD i default).data]) rfl rfl (by kernel_rfl) rfl (by have := ha; omega) (by omega) (by decide) (by omega)) rfl (by kernel_rfl) ?_
  refine Zr (p := pt 2 0) (v := slv 3 0 (i + 1) (i + 1)) (b := 2) (blk := rfB (slv 3 0 (i + 1) (i + 1))) (H' := [rdB l, bxB 1 ([.bool false]), rfB (slv 3 0 (i + 1) (i + 1)), txB (acc ++ [(((Zh l).1).getD i default).data]), rwB cFd ((Zh l).1), bxB 2 (fdC (((Zh l).1).getD i default)), txB [(((Zh l).1).getD i default).data]]) rfl rfl rfl (by kernel_rfl) (by kernel_rfl) ?_
  refine Za (Z1 (Zc (Zi ?_)))
  refine Zn (vx := Iv (i : Nat)) (vy := Iv 1) rfl rfl (Iv ((i : Nat) + 1)) rfl rfl (Za7 (by omega) (by omega) (by omega)) ?_
  refine Zd rfl rfl (Iv ((i : Nat) + 1)) rfl (Za ?_)
  refine Zau ⟨((i + 1), false, (acc ++ [(((Zh l).1).getD i default).data])), ⟨Zhy hR (by omega) (by simp only [*, Bool.true_and, Bool.false_and, eq_self, decide_true, decide_false]), by omega, by rw [List.length_append, ha]; rfl⟩, by show (Zh l).1.length - (i + 1) < (Zh l).1.length - i; omega, ?_⟩
  refine Zaq (n := 5) rfl ?_ (by kernel_rfl) (by kernel_rfl)
  repeat (first | exact trivial | refine ⟨.inl rfl, ?_⟩ | refine ⟨.inr ⟨rfl, rfl⟩, ?_⟩ | refine ⟨.inr ⟨congrArg (Value.int .i64) (by first | omega | (dsimp only; omega)), rfl⟩, ?_⟩)
  refine Zf (by exact congrArg (fun b => some (b == true)) h3) rfl ?_
  refine Zf (by exact congrArg (fun b => some (b == true)) h3) rfl ?_
  refine Zf (by exact congrArg (fun b => some (b == true)) h3) rfl ?_
  refine Zf (by exact congrArg (fun b => some (b == true)) h3) rfl ?_
  refine Zf (by exact congrArg (fun b => some (b == true)) h3) rfl ?_
  refine Zk rfl rfl (.bool false) (by show some (if _ then _ else _) = _; rw [h3] <;> rfl) ?_
  refine Zag (p := pt 1 0) (v := pt 1 0) rfl rfl rfl rfl ?_
  refine Zr (p := pt 1 0) (v := .bool false) (b := 1) (blk := bxB 1 ([.bool false])) (H' := [rdB l, bxB 1 ([.bool false]), rfB (slv 3 0 i i), txB acc, rwB cFd ((Zh l).1), bxB 2 (fdC (((Zh l).1).getD i default)), hole]) rfl rfl rfl (by kernel_rfl) (by kernel_rfl) ?_
  refine Za (Zc (Zi ?_))
  refine Zo (p := pt 2 0) (v := slv 3 0 i i) rfl rfl rfl rfl ?_
  refine Zj (b := 5) (o := 0) (n := 1) (o' := 1) rfl rfl rfl rfl rfl ?_
  refine Zo (p := pt 5 1) (v := .string ((((Zh l).1).getD i default).data)) rfl rfl rfl (by kernel_rfl) ?_
  refine Zd5 (vs := [(0, .string ((((Zh l).1).getD i default).data))]) (v := slv 6 0 1 1) (blk := txB [(((Zh l).1).getD i default).data]) (nid := 6) (H' := [rdB l, bxB 1 ([.bool false]), rfB (slv 3 0 i i), txB acc, rwB cFd ((Zh l).1), bxB 2 (fdC (((Zh l).1).getD i default)), txB [(((Zh l).1).getD i default).data]]) rfl rfl rfl (by kernel_rfl) (by kernel_rfl) ?_
  have hl3 : (acc ++ [(((Zh l).1).getD i default).data]).length = i + 1 := by have := ha; have := (rfl : _ = 1); first | (rw [List.length_append]; omega) | (simp; omega) | simp
  refine Zbz (p := slv 3 0 i i) (q := slv 6 0 1 1) (v := slv 3 0 (i + 1) (i + 1)) (b := 3) (blk := txB (acc ++ [(((Zh l).1).getD i default).data])) (H' := [rdB l, bxB 1 ([.bool false]), rfB (dead), txB (acc ++ [(((Zh l).1).getD i default).data]), rwB cFd ((Zh l).1), bxB 2 (fdC (((Zh l).1).getD i default)), txB [(((Zh l).1).getD i default).data]]) rfl rfl rfl (.inl ⟨_, rfl⟩) rfl rfl (Zhf (by_ := 16) (k := 1) (n' := i + 1) (ms := [(((Zh l).1).getD i default).data]) rfl rfl (by kernel_rfl) rfl (by have := ha; omega) (by omega) (by decide) (by omega)) rfl (by kernel_rfl) ?_
  refine Zr (p := pt 2 0) (v := slv 3 0 (i + 1) (i + 1)) (b := 2) (blk := rfB (slv 3 0 (i + 1) (i + 1))) (H' := [rdB l, bxB 1 ([.bool false]), rfB (slv 3 0 (i + 1) (i + 1)), txB (acc ++ [(((Zh l).1).getD i default).data]), rwB cFd ((Zh l).1), bxB 2 (fdC (((Zh l).1).getD i default)), txB [(((Zh l).1).getD i default).data]]) rfl rfl rfl (by kernel_rfl) (by kernel_rfl) ?_
  refine Za (Z1 (Zc (Zi ?_)))
  refine Zn (vx := Iv (i : Nat)) (vy := Iv 1) rfl rfl (Iv ((i : Nat) + 1)) rfl rfl (Za7 (by omega) (by omega) (by omega)) ?_
  refine Zd rfl rfl (Iv ((i : Nat) + 1)) rfl (Za ?_)
  refine Zau ⟨((i + 1), false, (acc ++ [(((Zh l).1).getD i default).data])), ⟨Zhy hR (by omega) (by simp only [*, Bool.true_and, Bool.false_and, eq_self, decide_true, decide_false]), by omega, by rw [List.length_append, ha]; rfl⟩, by show (Zh l).1.length - (i + 1) < (Zh l).1.length - i; omega, ?_⟩
  refine Zaq (n := 5) rfl ?_ (by kernel_rfl) (by kernel_rfl)
  repeat (first | exact trivial | refine ⟨.inl rfl, ?_⟩ | refine ⟨.inr ⟨rfl, rfl⟩, ?_⟩ | refine ⟨.inr ⟨congrArg (Value.int .i64) (by first | omega | (dsimp only; omega)), rfl⟩, ?_⟩)
  refine Zn (vx := Iv (i : Nat)) (vy := Iv ((((Zh l).1.length) : Nat) : Int)) rfl rfl (.bool false) rfl rfl (Zdh (by omega)) ?_
  refine Za (Zc (Zg (Zx rfl (Zce (Zbj (Zbo (Zbp rfl (Zc (Zg (Zi (Zb rfl rfl (pt 2 0) rfl (Za (Zc (Zv (Zu ?_)))))))))))))))
  have hR' : ofF l = (okv, acc) := by unfold ofF; rw [← hR, List.drop_of_length_le (by omega)]; rfl
  rw [hR']
  rw [show (okv, acc).2.length = i from ha]
  exact Zm (v := pt 2 0) rfl rfl rfl (by simp [Zac, rdB, bxB, rfB, txB, Zej, Zcp]) ⟨rfl, rfl⟩
  refine Zn (vx := Iv ((Zh l).2)) (vy := Iv 0) rfl rfl (.bool false) rfl rfl (Zb6 (by omega)) ?_
  refine Zag (p := pt 1 0) (v := pt 1 0) rfl rfl rfl rfl ?_
  refine Zr (p := pt 1 0) (v := .bool false) (b := 1) (blk := bxB 1 ([.bool false])) (H' := [rdB l, bxB 1 ([.bool false]), hole, hole, rwB cFd ((Zh l).1)]) rfl rfl rfl (by kernel_rfl) (by kernel_rfl) ?_
  refine Za (Zc (Zg (Zi ?_)))
  refine Zae (b := rfB (.slice none 0 0)) (nid := 2) (H' := [rdB l, bxB 1 ([.bool false]), rfB (.slice none 0 0), hole, rwB cFd ((Zh l).1)]) rfl rfl (by kernel_rfl) (by kernel_rfl) ?_
  refine Za (Zc (Zg (Zg ?_)))
  have hrl := Zna l
  refine Zcw (Zcq.nilCell (k := 2) (j := 0) (b := 3) true 1 rfl (by decide) rfl (by show 0 < 1; decide) rfl rfl) ?_
  refine Zi (Zd rfl rfl (slv 4 0 ((Zh l).1.length) ((Zh l).1.length)) rfl ?_)
  refine Zb7 (p := slv 4 0 ((Zh l).1.length) ((Zh l).1.length)) (v := Iv ((((Zh l).1.length) : Nat) : Int)) rfl rfl rfl rfl ?_
  refine Zd rfl rfl (Iv 0) rfl (Za (Zc (Zap ?_)))
  refine Zb8 (fun x : Nat × Bool × (List ByteArray) => match x with | (i, okv, acc) => [slv 0 0 l.length c, pt 1 0, dead, dead, .pointer none, slv 4 0 ((Zh l).1.length) ((Zh l).1.length), Iv ((Zh l).2), pt 2 0, dead, dead, .tuple #[slv 4 0 ((Zh l).1.length) ((Zh l).1.length), Iv ((Zh l).2)], slv 0 0 l.length c, .tuple #[slv 4 0 ((Zh l).1.length) ((Zh l).1.length), Iv ((Zh l).2)], slv 4 0 ((Zh l).1.length) ((Zh l).1.length), Iv ((Zh l).2), pt 1 0, Iv ((Zh l).2), .bool false, pt 1 0, slv 4 0 ((Zh l).1.length) ((Zh l).1.length), Iv ((((Zh l).1.length) : Nat) : Int), Iv (i : Nat)]) (fun x : Nat × Bool × (List ByteArray) => match x with | (i, okv, acc) => [rdB l, bxB 1 ([.bool okv]), rfB (slv 3 0 i i), txB acc, rwB cFd ((Zh l).1)]) (fun x : Nat × Bool × (List ByteArray) => match x with | (i, okv, acc) => ofL ((Zh l).1.drop i) i okv acc = ofL (Zh l).1 0 (decide ((Zh l).2 = 0)) [] ∧ i ≤ (Zh l).1.length ∧ acc.length = i) (fun x : Nat × Bool × (List ByteArray) => match x with | (i, okv, acc) => (Zh l).1.length - i) (0, false, []) ⟨by simp [*], by omega, rfl⟩ ?_ ?_
  · refine Zaq (n := 5) rfl ?_ (by kernel_rfl) (by kernel_rfl)
    repeat (first | exact trivial | refine ⟨.inl rfl, ?_⟩ | refine ⟨.inr ⟨rfl, rfl⟩, ?_⟩ | refine ⟨.inr ⟨congrArg (Value.int .i64) (by first | omega | (dsimp only; omega)), rfl⟩, ?_⟩)
  rintro ⟨i, okv, acc⟩ ⟨hR, hi, ha⟩
  dsimp only at *
  refine Zat 2 (H' := [rdB l, bxB 1 ([.bool okv]), rfB (slv 3 0 i i), txB acc, rwB cFd ((Zh l).1), hole, hole]) rfl ?_
  refine Zg (Zi ?_)
  by_cases h5 : (i : Nat) < ((((Zh l).1.length) : Nat) : Int)
  refine Zn (vx := Iv (i : Nat)) (vy := Iv ((((Zh l).1.length) : Nat) : Int)) rfl rfl (.bool true) rfl rfl (Zdt (by omega)) ?_
  refine Za (Zc (Zg (Z0 rfl (Zai (Zc (Zg (Zap (Zg (Zi (Zd rfl rfl (Iv (i : Nat)) rfl ?_))))))))))
  refine Zbk (b := 4) (o := 0) (j := i * 2) (m := ((Zh l).1.length)) (c := ((Zh l).1.length)) (sz := 2) (i := (i : Nat)) (k := .i64) rfl rfl rfl rfl rfl (by omega) (by omega) (by omega) ?_
  refine Zo (p := pt 4 (i * 2)) (v := fdV (((Zh l).1).getD i default)) rfl rfl rfl (Zk0 (n := 0) (m := 2) cFd rfl rfl rfl rfl (by omega) (by omega)) ?_
  refine Zae (b := bxB 2 (fdC (⟨0, ⟨#[]⟩⟩ : Field))) (nid := 5) (H' := [rdB l, bxB 1 ([.bool okv]), rfB (slv 3 0 i i), txB acc, rwB cFd ((Zh l).1), bxB 2 (fdC (⟨0, ⟨#[]⟩⟩ : Field)), hole]) rfl rfl (by kernel_rfl) (by kernel_rfl) ?_
  refine Zb rfl rfl (Iv (i : Nat)) rfl ?_
  refine Zr (p := pt 5 0) (v := fdV (((Zh l).1).getD i default)) (b := 5) (blk := bxB 2 (fdC (((Zh l).1).getD i default))) (H' := [rdB l, bxB 1 ([.bool okv]), rfB (slv 3 0 i i), txB acc, rwB cFd ((Zh l).1), bxB 2 (fdC (((Zh l).1).getD i default)), hole]) rfl rfl rfl (by kernel_rfl) (by kernel_rfl) ?_
  refine Za (Zc (Zg (Zi (Zd rfl rfl (pt 1 0) rfl (Zd rfl rfl (pt 1 0) rfl ?_)))))
  refine Zag (p := pt 1 0) (v := pt 1 0) rfl rfl rfl rfl ?_
  refine Zo (p := pt 1 0) (v := .bool okv) rfl rfl rfl (by kernel_rfl) ?_
  refine Zd rfl rfl (.bool okv) rfl ?_
  rcases Bool.eq_false_or_eq_true okv with h6 | h6
  refine Zj (b := 5) (o := 0) (n := 0) (o' := 0) (by exact congrArg (fun b => some (b == true)) h6) rfl rfl rfl rfl ?_
  refine Zo (p := pt 5 0) (v := Iv ((((Zh l).1).getD i default).tag)) (by exact congrArg (fun b => some (b == true)) h6) rfl rfl (by kernel_rfl) ?_
  refine Zd (by exact congrArg (fun b => some (b == true)) h6) rfl (Iv (i : Nat)) rfl ?_
  refine Zn (vx := Iv (i : Nat)) (vy := Iv 1) (by exact congrArg (fun b => some (b == true)) h6) rfl (Iv ((i : Nat) + 1)) rfl rfl (Za7 (by omega) (by omega) (by omega)) ?_
  by_cases h7 : ((((Zh l).1).getD i default).tag) = (i : Nat) + 1
  refine Zn (vx := Iv ((((Zh l).1).getD i default).tag)) (vy := Iv ((i : Nat) + 1)) (by exact congrArg (fun b => some (b == true)) h6) rfl (.bool true) rfl rfl (Zbs (by omega)) ?_
  refine Zk rfl rfl (.bool true) (by show some (if _ then _ else _) = _; rw [h6] <;> rfl) ?_
  refine Zag (p := pt 1 0) (v := pt 1 0) rfl rfl rfl rfl ?_
  refine Zr (p := pt 1 0) (v := .bool true) (b := 1) (blk := bxB 1 ([.bool true])) (H' := [rdB l, bxB 1 ([.bool true]), rfB (slv 3 0 i i), txB acc, rwB cFd ((Zh l).1), bxB 2 (fdC (((Zh l).1).getD i default)), hole]) rfl rfl rfl (by kernel_rfl) (by kernel_rfl) ?_
  refine Za (Zc (Zi ?_))
  refine Zo (p := pt 2 0) (v := slv 3 0 i i) rfl rfl rfl rfl ?_
  refine Zj (b := 5) (o := 0) (n := 1) (o' := 1) rfl rfl rfl rfl rfl ?_
  refine Zo (p := pt 5 1) (v := .string ((((Zh l).1).getD i default).data)) rfl rfl rfl (by kernel_rfl) ?_
  refine Zd5 (vs := [(0, .string ((((Zh l).1).getD i default).data))]) (v := slv 6 0 1 1) (blk := txB [(((Zh l).1).getD i default).data]) (nid := 6) (H' := [rdB l, bxB 1 ([.bool true]), rfB (slv 3 0 i i), txB acc, rwB cFd ((Zh l).1), bxB 2 (fdC (((Zh l).1).getD i default)), txB [(((Zh l).1).getD i default).data]]) rfl rfl rfl (by kernel_rfl) (by kernel_rfl) ?_
  have hl4 : (acc ++ [(((Zh l).1).getD i default).data]).length = i + 1 := by have := ha; have := (rfl : _ = 1); first | (rw [List.length_append]; omega) | (simp; omega) | simp
  refine Zbz (p := slv 3 0 i i) (q := slv 6 0 1 1) (v := slv 3 0 (i + 1) (i + 1)) (b := 3) (blk := txB (acc ++ [(((Zh l).1).getD i default).data])) (H' := [rdB l, bxB 1 ([.bool true]), rfB (dead), txB (acc ++ [(((Zh l).1).getD i default).data]), rwB cFd ((Zh l).1), bxB 2 (fdC (((Zh l).1).getD i default)), txB [(((Zh l).1).getD i default).data]]) rfl rfl rfl (.inl ⟨_, rfl⟩) rfl rfl (Zhf (by_ := 16) (k := 1) (n' := i + 1) (ms := [(((Zh l).1).getD i default).data]) rfl rfl (by kernel_rfl) rfl (by have := ha; omega) (by omega) (by decide) (by omega)) rfl (by kernel_rfl) ?_
  refine Zr (p := pt 2 0) (v := slv 3 0 (i + 1) (i + 1)) (b := 2) (blk := rfB (slv 3 0 (i + 1) (i + 1))) (H' := [rdB l, bxB 1 ([.bool true]), rfB (slv 3 0 (i + 1) (i + 1)), txB (acc ++ [(((Zh l).1).getD i default).data]), rwB cFd ((Zh l).1), bxB 2 (fdC (((Zh l).1).getD i default)), txB [(((Zh l).1).getD i default).data]]) rfl rfl rfl (by kernel_rfl) (by kernel_rfl) ?_
  refine Za (Z1 (Zc (Zi ?_)))
  refine Zn (vx := Iv (i : Nat)) (vy := Iv 1) rfl rfl (Iv ((i : Nat) + 1)) rfl rfl (Za7 (by omega) (by omega) (by omega)) ?_
  refine Zd rfl rfl (Iv ((i : Nat) + 1)) rfl (Za ?_)
  refine Zau ⟨((i + 1), true, (acc ++ [(((Zh l).1).getD i default).data])), ⟨Zhy hR (by omega) (by simp only [*, Bool.true_and, Bool.false_and, eq_self, decide_true, decide_false]), by omega, by rw [List.length_append, ha]; rfl⟩, by show (Zh l).1.length - (i + 1) < (Zh l).1.length - i; omega, ?_⟩
  refine Zaq (n := 5) rfl ?_ (by kernel_rfl) (by kernel_rfl)
  repeat (first | exact trivial | refine ⟨.inl rfl, ?_⟩ | refine ⟨.inr ⟨rfl, rfl⟩, ?_⟩ | refine ⟨.inr ⟨congrArg (Value.int .i64) (by first | omega | (dsimp only; omega)), rfl⟩, ?_⟩)
  refine Zn (vx := Iv ((((Zh l).1).getD i default).tag)) (vy := Iv ((i : Nat) + 1)) (by exact congrArg (fun b => some (b == true)) h6) rfl (.bool false) rfl rfl (Zb6 (by omega)) ?_
  refine Zk rfl rfl (.bool false) (by show some (if _ then _ else _) = _; rw [h6] <;> rfl) ?_
  refine Zag (p := pt 1 0) (v := pt 1 0) rfl rfl rfl rfl ?_
  refine Zr (p := pt 1 0) (v := .bool false) (b := 1) (blk := bxB 1 ([.bool false])) (H' := [rdB l, bxB 1 ([.bool false]), rfB (slv 3 0 i i), txB acc, rwB cFd ((Zh l).1), bxB 2 (fdC (((Zh l).1).getD i default)), hole]) rfl rfl rfl (by kernel_rfl) (by kernel_rfl) ?_
  refine Za (Zc (Zi ?_))
  refine Zo (p := pt 2 0) (v := slv 3 0 i i) rfl rfl rfl rfl ?_
  refine Zj (b := 5) (o := 0) (n := 1) (o' := 1) rfl rfl rfl rfl rfl ?_
  refine Zo (p := pt 5 1) (v := .string ((((Zh l).1).getD i default).data)) rfl rfl rfl (by kernel_rfl) ?_
  refine Zd5 (vs := [(0, .string ((((Zh l).1).getD i default).data))]) (v := slv 6 0 1 1) (blk := txB [(((Zh l).1).getD i default).data]) (nid := 6) (H' := [rdB l, bxB 1 ([.bool false]), rfB (slv 3 0 i i), txB acc, rwB cFd ((Zh l).1), bxB 2 (fdC (((Zh l).1).getD i default)), txB [(((Zh l).1).getD i default).data]]) rfl rfl rfl (by kernel_rfl) (by kernel_rfl) ?_
  have hl5 : (acc ++ [(((Zh l).1).getD i default).data]).length = i + 1 := by have := ha; have := (rfl : _ = 1); first | (rw [List.length_append]; omega) | (simp; omega) | simp
  refine Zbz (p := slv 3 0 i i) (q := slv 6 0 1 1) (v := slv 3 0 (i + 1) (i + 1)) (b := 3) (blk := txB (acc ++ [(((Zh l).1).getD i default).data])) (H' := [rdB l, bxB 1 ([.bool false]), rfB (dead), txB (acc ++ [(((Zh l).1).getD i default).data]), rwB cFd ((Zh l).1), bxB 2 (fdC (((Zh l).1).getD i default)), txB [(((Zh l).1).getD i default).data]]) rfl rfl rfl (.inl ⟨_, rfl⟩) rfl rfl (Zhf (by_ := 16) (k := 1) (n' := i + 1) (ms := [(((Zh l).1).getD i default).data]) rfl rfl (by kernel_rfl) rfl (by have := ha; omega) (by omega) (by decide) (by omega)) rfl (by kernel_rfl) ?_
  refine Zr (p := pt 2 0) (v := slv 3 0 (i + 1) (i + 1)) (b := 2) (blk := rfB (slv 3 0 (i + 1) (i + 1))) (H' := [rdB l, bxB 1 ([.bool false]), rfB (slv 3 0 (i + 1) (i + 1)), txB (acc ++ [(((Zh l).1).getD i default).data]), rwB cFd ((Zh l).1), bxB 2 (fdC (((Zh l).1).getD i default)), txB [(((Zh l).1).getD i default).data]]) rfl rfl rfl (by kernel_rfl) (by kernel_rfl) ?_
  refine Za (Z1 (Zc (Zi ?_)))
  refine Zn (vx := Iv (i : Nat)) (vy := Iv 1) rfl rfl (Iv ((i : Nat) + 1)) rfl rfl (Za7 (by omega) (by omega) (by omega)) ?_
  refine Zd rfl rfl (Iv ((i : Nat) + 1)) rfl (Za ?_)
  refine Zau ⟨((i + 1), false, (acc ++ [(((Zh l).1).getD i default).data])), ⟨Zhy hR (by omega) (by simp only [*, Bool.true_and, Bool.false_and, eq_self, decide_true, decide_false]), by omega, by rw [List.length_append, ha]; rfl⟩, by show (Zh l).1.length - (i + 1) < (Zh l).1.length - i; omega, ?_⟩
  refine Zaq (n := 5) rfl ?_ (by kernel_rfl) (by kernel_rfl)
  repeat (first | exact trivial | refine ⟨.inl rfl, ?_⟩ | refine ⟨.inr ⟨rfl, rfl⟩, ?_⟩ | refine ⟨.inr ⟨congrArg (Value.int .i64) (by first | omega | (dsimp only; omega)), rfl⟩, ?_⟩)
  refine Zf (by exact congrArg (fun b => some (b == true)) h6) rfl ?_
  refine Zf (by exact congrArg (fun b => some (b == true)) h6) rfl ?_
  refine Zf (by exact congrArg (fun b => some (b == true)) h6) rfl ?_
  refine Zf (by exact congrArg (fun b => some (b == true)) h6) rfl ?_
  refine Zf (by exact congrArg (fun b => some (b == true)) h6) rfl ?_
  refine Zk rfl rfl (.bool false) (by show some (if _ then _ else _) = _; rw [h6] <;> rfl) ?_
  refine Zag (p := pt 1 0) (v := pt 1 0) rfl rfl rfl rfl ?_
  refine Zr (p := pt 1 0) (v := .bool false) (b := 1) (blk := bxB 1 ([.bool false])) (H' := [rdB l, bxB 1 ([.bool false]), rfB (slv 3 0 i i), txB acc, rwB cFd ((Zh l).1), bxB 2 (fdC (((Zh l).1).getD i default)), hole]) rfl rfl rfl (by kernel_rfl) (by kernel_rfl) ?_
  refine Za (Zc (Zi ?_))
  refine Zo (p := pt 2 0) (v := slv 3 0 i i) rfl rfl rfl rfl ?_
  refine Zj (b := 5) (o := 0) (n := 1) (o' := 1) rfl rfl rfl rfl rfl ?_
  refine Zo (p := pt 5 1) (v := .string ((((Zh l).1).getD i default).data)) rfl rfl rfl (by kernel_rfl) ?_
  refine Zd5 (vs := [(0, .string ((((Zh l).1).getD i default).data))]) (v := slv 6 0 1 1) (blk := txB [(((Zh l).1).getD i default).data]) (nid := 6) (H' := [rdB l, bxB 1 ([.bool false]), rfB (slv 3 0 i i), txB acc, rwB cFd ((Zh l).1), bxB 2 (fdC (((Zh l).1).getD i default)), txB [(((Zh l).1).getD i default).data]]) rfl rfl rfl (by kernel_rfl) (by kernel_rfl) ?_
  have hl6 : (acc ++ [(((Zh l).1).getD i default).data]).length = i + 1 := by have := ha; have := (rfl : _ = 1); first | (rw [List.length_append]; omega) | (simp; omega) | simp
  refine Zbz (p := slv 3 0 i i) (q := slv 6 0 1 1) (v := slv 3 0 (i + 1) (i + 1)) (b := 3) (blk := txB (acc ++ [(((Zh l).1).getD i default).data])) (H' := [rdB l, bxB 1 ([.bool false]), rfB (dead), txB (acc ++ [(((Zh l).1).getD i default).data]), rwB cFd ((Zh l).1), bxB 2 (fdC (((Zh l).1).getD i default)), txB [(((Zh l).1).getD i default).data]]) rfl rfl rfl (.inl ⟨_, rfl⟩) rfl rfl (Zhf (by_ := 16) (k := 1) (n' := i + 1) (ms := [(((Zh l).1).getD i default).data]) rfl rfl (by kernel_rfl) rfl (by have := ha; omega) (by omega) (by decide) (by omega)) rfl (by kernel_rfl) ?_
  refine Zr (p := pt 2 0) (v := slv 3 0 (i + 1) (i + 1)) (b := 2) (blk := rfB (slv 3 0 (i + 1) (i + 1))) (H' := [rdB l, bxB 1 ([.bool false]), rfB (slv 3 0 (i + 1) (i + 1)), txB (acc ++ [(((Zh l).1).getD i default).data]), rwB cFd ((Zh l).1), bxB 2 (fdC (((Zh l).1).getD i default)), txB [(((Zh l).1).getD i default).data]]) rfl rfl rfl (by kernel_rfl) (by kernel_rfl) ?_
  refine Za (Z1 (Zc (Zi ?_)))
  refine Zn (vx := Iv (i : Nat)) (vy := Iv 1) rfl rfl (Iv ((i : Nat) + 1)) rfl rfl (Za7 (by omega) (by omega) (by omega)) ?_
  refine Zd rfl rfl (Iv ((i : Nat) + 1)) rfl (Za ?_)
  refine Zau ⟨((i + 1), false, (acc ++ [(((Zh l).1).getD i default).data])), ⟨Zhy hR (by omega) (by simp only [*, Bool.true_and, Bool.false_and, eq_self, decide_true, decide_false]), by omega, by rw [List.length_append, ha]; rfl⟩, by show (Zh l).1.length - (i + 1) < (Zh l).1.length - i; omega, ?_⟩
  refine Zaq (n := 5) rfl ?_ (by kernel_rfl) (by kernel_rfl)
  repeat (first | exact trivial | refine ⟨.inl rfl, ?_⟩ | refine ⟨.inr ⟨rfl, rfl⟩, ?_⟩ | refine ⟨.inr ⟨congrArg (Value.int .i64) (by first | omega | (dsimp only; omega)), rfl⟩, ?_⟩)
  refine Zn (vx := Iv (i : Nat)) (vy := Iv ((((Zh l).1.length) : Nat) : Int)) rfl rfl (.bool false) rfl rfl (Zdh (by omega)) ?_
  refine Za (Zc (Zg (Zx rfl (Zce (Zbj (Zbo (Zbp rfl (Zc (Zg (Zi (Zb rfl rfl (pt 2 0) rfl (Za (Zc (Zv (Zu ?_)))))))))))))))
  have hR' : ofF l = (okv, acc) := by unfold ofF; rw [← hR, List.drop_of_length_le (by omega)]; rfl
  rw [hR']
  rw [show (okv, acc).2.length = i from ha]
  exact Zm (v := pt 2 0) rfl rfl rfl (by simp [Zac, rdB, bxB, rfB, txB, Zej, Zcp]) ⟨rfl, rfl⟩
end Go.Flat
namespace Go.Flat
open Go.Proofs
variable {G : Glob}
def nxP (L p : Nat) : Nat := if p < L then p + 1 else p
def Zak (L p : Nat) : Nat := L - p
theorem Zfc {L p : Nat} (h : p ≤ L) : Zak L p + p = L := by unfold Zak; omega
theorem Zv1 {L p : Nat} (h : p ≤ L) : nxP L p ≤ L := by unfold nxP; split <;> omega
theorem Z00 {ls : List ByteArray} {p : Nat} (h : ls.length ≤ p) : ls.getD p ⟨#[]⟩ = ⟨#[]⟩ := by rw [List.getD_eq_getElem?_getD, List.getElem?_eq_none h]; rfl
theorem Zr0 (ls : List ByteArray) (L p : Nat) (ok : Bool) (hL : ls.length = L) (hp : p ≤ L) : Zao Tryd.prog G 72 [pt 0 0, pt 2 0] [rfB (slv 1 p (Zak L p) (Zak L p)), Zcz ls, bxB 1 ([.bool ok])] (.string (ls.getD p ⟨#[]⟩)) [rfB (slv 1 (nxP L p) (Zak L (nxP L p)) (Zak L (nxP L p))), Zcz ls, bxB 1 [.bool (ok && decide (p < L))]] := by
 have hr : Zak L p + p = L := Zfc hp
 refine Zbv (fn := Tryd.f72) (nt := 25) rfl rfl rfl rfl ?_
 refine Zg (Zi (Zb rfl rfl (.string ⟨#[]⟩) rfl (Za (Zc (Zg (Zg (Zi (Zd rfl rfl (pt 0 0) rfl ?_))))))))
 refine Zag (p := pt 0 0) (v := pt 0 0) rfl rfl rfl rfl ?_
 refine Zo (p := pt 0 0) (v := slv 1 p (Zak L p) (Zak L p)) rfl rfl rfl rfl ?_
 refine Zb7 (p := slv 1 p (Zak L p) (Zak L p)) (v := Iv (((Zak L p) : Nat) : Int)) rfl rfl rfl rfl ?_
 by_cases h1 : (((Zak L p) : Nat) : Int) = 0
 refine Zn (vx := Iv (((Zak L p) : Nat) : Int)) (vy := Iv 0) rfl rfl (.bool true) rfl rfl (Zbs (by omega)) ?_
 refine Za (Zc (Z0 rfl (Zg (Zi (Zd rfl rfl (pt 2 0) rfl ?_)))))
 refine Zag (p := pt 2 0) (v := pt 2 0) rfl rfl rfl rfl ?_
 refine Zr (p := pt 2 0) (v := .bool false) (b := 2) (blk := bxB 1 ([.bool false])) (H' := [rfB (slv 1 p (Zak L p) (Zak L p)), Zcz ls, bxB 1 ([.bool false])]) rfl rfl rfl (by kernel_rfl) (by kernel_rfl) ?_
 refine Za (Zc (Zg (Zi (Zb rfl rfl (.string ⟨#[]⟩) rfl (Za (Zc (Zv (Z5 (Zu ?_)))))))))
 rw [show nxP L p = p from if_neg (by omega), show (ok && decide (p < L)) = false from by rw [decide_eq_false (by omega), Bool.and_false], Z00 (by omega)]
 exact Zm (v := .string ⟨#[]⟩) rfl rfl rfl (by simp [Zac, Zcz, bxB, rfB, Zej, Zcp]) rfl
 refine Zn (vx := Iv (((Zak L p) : Nat) : Int)) (vy := Iv 0) rfl rfl (.bool false) rfl rfl (Zb6 (by omega)) ?_
 refine Za (Zc (Zx rfl (Zai (Zc (Zg (Zi (Zd rfl rfl (pt 0 0) rfl ?_)))))))
 refine Zag (p := pt 0 0) (v := pt 0 0) rfl rfl rfl rfl ?_
 refine Zo (p := pt 0 0) (v := slv 1 p (Zak L p) (Zak L p)) rfl rfl rfl rfl ?_
 refine Zbk (b := 1) (o := p) (j := p) (m := (Zak L p)) (c := (Zak L p)) (sz := 1) (i := 0) (k := .i64) rfl rfl rfl rfl rfl (by omega) (by omega) (by omega) ?_
 refine Zo (p := pt 1 p) (v := .string (ls.getD p ⟨#[]⟩)) rfl rfl rfl (Zdv rfl rfl rfl (by have := hL; omega)) ?_
 refine Zb rfl rfl (.string (ls.getD p ⟨#[]⟩)) rfl (Za (Zc (Zg (Zi (Zd rfl rfl (pt 0 0) rfl (Zd rfl rfl (pt 0 0) rfl ?_))))))
 refine Zag (p := pt 0 0) (v := pt 0 0) rfl rfl rfl rfl ?_
 refine Zo (p := pt 0 0) (v := slv 1 p (Zak L p) (Zak L p)) rfl rfl rfl rfl ?_
 refine Zec (p := slv 1 p (Zak L p) (Zak L p)) (vl := some (Iv 1)) (vh := none) (v := slv 1 (p + 1) ((Zak L p) - 1) ((Zak L p) - 1)) rfl rfl rfl rfl rfl (Zmb (sz := 1) (l := 1) rfl rfl rfl (by omega) (by omega) (by omega) rfl (by omega) (by omega) (by omega)) ?_
 refine Zag (p := pt 0 0) (v := pt 0 0) rfl rfl rfl rfl ?_
 refine Zr (p := pt 0 0) (v := slv 1 (p + 1) ((Zak L p) - 1) ((Zak L p) - 1)) (b := 0) (blk := rfB (slv 1 (p + 1) ((Zak L p) - 1) ((Zak L p) - 1))) (H' := [rfB (slv 1 (p + 1) ((Zak L p) - 1) ((Zak L p) - 1)), Zcz ls, bxB 1 ([.bool ok])]) rfl rfl rfl (by kernel_rfl) (by kernel_rfl) ?_
 refine Za (Zc (Zg (Zi (Zd rfl rfl (.string (ls.getD p ⟨#[]⟩)) rfl (Zb rfl rfl (.string (ls.getD p ⟨#[]⟩)) rfl (Za (Zc (Zv (Zu ?_)))))))))
 rw [show nxP L p = p + 1 from if_pos (by omega), show Zak L (p + 1) = Zak L p - 1 from by unfold Zak; omega, show (ok && decide (p < L)) = ok from by rw [decide_eq_true (by omega), Bool.and_true]]
 exact Zm (v := .string (ls.getD p ⟨#[]⟩)) rfl rfl rfl (by simp [Zac, Zcz, bxB, rfB, Zej, Zcp]) rfl
theorem Ziy (ls : List ByteArray) (L p : Nat) (ok : Bool) (hL : ls.length = L) (hp : p ≤ L) : Zao Tryd.prog G 73 [pt 0 0, pt 2 0] [rfB (slv 1 p (Zak L p) (Zak L p)), Zcz ls, bxB 1 ([.bool ok])] (Iv (Zq (ls.getD p ⟨#[]⟩)).1) [rfB (slv 1 (nxP L p) (Zak L (nxP L p)) (Zak L (nxP L p))), Zcz ls, bxB 1 [.bool ((ok && decide (p < L)) && decide ((Zq (ls.getD p ⟨#[]⟩)).2 = 0))]] := by
 refine Zbv (fn := Tryd.f73) (nt := 24) rfl rfl rfl rfl ?_
 refine Zg (Zi (Zb rfl rfl (Iv 0) rfl (Za (Zc (Zg (Zi (Zd rfl rfl (pt 0 0) rfl (Zd rfl rfl (pt 2 0) rfl ?_))))))))
 have hnx2 := Zv1 (L := L) (p := p) (by omega)
 refine Zad (e := [some (0, 0), some (1, 0), some (2, 0)]) (nid := 0) (Zr0 (G := G) ls L p ok hL (by omega)) (vals := [pt 0 0, pt 2 0]) (v := .string (ls.getD p ⟨#[]⟩)) (H' := [rfB (slv 1 (nxP L p) (Zak L (nxP L p)) (Zak L (nxP L p))), Zcz ls, bxB 1 ([.bool (ok && decide (p < L))])]) rfl rfl rfl rfl rfl rfl rfl ⟨⟨⟨rfl, rfl⟩, ⟨rfl, rfl⟩, trivial⟩, ⟨(Zay rfl rfl rfl (by show [_] = [Zdq _ _]; simp [Zdq, Zct])), (Zw8 rfl), (Zay rfl rfl rfl rfl), trivial⟩, rfl, rfl, rfl⟩ rfl (Eq.trans (b := [rfB (slv 1 (0 + (nxP L p)) (Zak L (nxP L p)) (Zak L (nxP L p))), Zcz ls, bxB 1 ([.bool (ok && decide (p < L))])]) (by kernel_rfl) (by rw [Nat.zero_add])) ?_
 refine Zs (Ztu (G := G) (ls.getD p ⟨#[]⟩)) (vals := [.string (ls.getD p ⟨#[]⟩)]) (res' := .tuple #[Iv ((Zq (ls.getD p ⟨#[]⟩)).1), Iv ((Zq (ls.getD p ⟨#[]⟩)).2)]) rfl rfl rfl rfl rfl (by kernel_rfl) ?_
 refine Zd rfl rfl (.tuple #[Iv ((Zq (ls.getD p ⟨#[]⟩)).1), Iv ((Zq (ls.getD p ⟨#[]⟩)).2)]) rfl (Zt (vs := #[Iv ((Zq (ls.getD p ⟨#[]⟩)).1), Iv ((Zq (ls.getD p ⟨#[]⟩)).2)]) (v := Iv ((Zq (ls.getD p ⟨#[]⟩)).1)) rfl rfl rfl rfl (Zt (vs := #[Iv ((Zq (ls.getD p ⟨#[]⟩)).1), Iv ((Zq (ls.getD p ⟨#[]⟩)).2)]) (v := Iv ((Zq (ls.getD p ⟨#[]⟩)).2)) rfl rfl rfl rfl (Zb rfl rfl (Iv ((Zq (ls.getD p ⟨#[]⟩)).1)) rfl (Zb rfl rfl (Iv ((Zq (ls.getD p ⟨#[]⟩)).2)) rfl (Za (Zc (Zg (Zi (Zd rfl rfl (pt 2 0) rfl (Zd rfl rfl (pt 2 0) rfl ?_))))))))))
 refine Zag (p := pt 2 0) (v := pt 2 0) rfl rfl rfl rfl ?_
 refine Zo (p := pt 2 0) (v := .bool (ok && decide (p < L))) rfl rfl rfl (by kernel_rfl) ?_
 refine Zd rfl rfl (.bool (ok && decide (p < L))) rfl ?_
 rcases Bool.eq_false_or_eq_true (ok && decide (p < L)) with h1 | h1
 refine Zd (by exact congrArg (fun b => some (b == true)) h1) rfl (Iv ((Zq (ls.getD p ⟨#[]⟩)).2)) rfl ?_
 by_cases h2 : ((Zq (ls.getD p ⟨#[]⟩)).2) = 0
 refine Zn (vx := Iv ((Zq (ls.getD p ⟨#[]⟩)).2)) (vy := Iv 0) (by exact congrArg (fun b => some (b == true)) h1) rfl (.bool true) rfl rfl (Zbs (by omega)) ?_
 refine Zk rfl rfl (.bool true) (by show some (if _ then _ else _) = _; rw [h1] <;> rfl) ?_
 refine Zag (p := pt 2 0) (v := pt 2 0) rfl rfl rfl rfl ?_
 refine Zr (p := pt 2 0) (v := .bool true) (b := 2) (blk := bxB 1 ([.bool true])) (H' := [rfB (slv 1 (nxP L p) (Zak L (nxP L p)) (Zak L (nxP L p))), Zcz ls, bxB 1 ([.bool true])]) rfl rfl rfl (by kernel_rfl) (by kernel_rfl) ?_
 refine Za (Zc (Zg (Zi (Zd rfl rfl (Iv ((Zq (ls.getD p ⟨#[]⟩)).1)) rfl (Zb rfl rfl (Iv ((Zq (ls.getD p ⟨#[]⟩)).1)) rfl (Za (Zc (Zv (Zu ?_)))))))))
 rw [show ((ok && decide (p < L)) && decide ((Zq (ls.getD p ⟨#[]⟩)).2 = 0)) = true from by simp only [*, Bool.true_and, Bool.false_and, eq_self, decide_true, decide_false]]
 exact Zm (v := Iv ((Zq (ls.getD p ⟨#[]⟩)).1)) rfl rfl rfl (by simp [Zac, Zcz, bxB, rfB, Zej, Zcp]) rfl
 refine Zn (vx := Iv ((Zq (ls.getD p ⟨#[]⟩)).2)) (vy := Iv 0) (by exact congrArg (fun b => some (b == true)) h1) rfl (.bool false) rfl rfl (Zb6 (by omega)) ?_
 refine Zk rfl rfl (.bool false) (by show some (if _ then _ else _) = _; rw [h1] <;> rfl) ?_
 refine Zag (p := pt 2 0) (v := pt 2 0) rfl rfl rfl rfl ?_
 refine Zr (p := pt 2 0) (v := .bool false) (b := 2) (blk := bxB 1 ([.bool false])) (H' := [rfB (slv 1 (nxP L p) (Zak L (nxP L p)) (Zak L (nxP L p))), Zcz ls, bxB 1 ([.bool false])]) rfl rfl rfl (by kernel_rfl) (by kernel_rfl) ?_
 refine Za (Zc (Zg (Zi (Zd rfl rfl (Iv ((Zq (ls.getD p ⟨#[]⟩)).1)) rfl (Zb rfl rfl (Iv ((Zq (ls.getD p ⟨#[]⟩)).1)) rfl (Za (Zc (Zv (Zu ?_)))))))))
 rw [show ((ok && decide (p < L)) && decide ((Zq (ls.getD p ⟨#[]⟩)).2 = 0)) = false from by simp only [*, Bool.true_and, Bool.false_and, eq_self, decide_true, decide_false]]
 exact Zm (v := Iv ((Zq (ls.getD p ⟨#[]⟩)).1)) rfl rfl rfl (by simp [Zac, Zcz, bxB, rfB, Zej, Zcp]) rfl
 refine Zf (by exact congrArg (fun b => some (b == true)) h1) rfl ?_
 refine Zf (by exact congrArg (fun b => some (b == true)) h1) rfl ?_
 refine Zk rfl rfl (.bool false) (by show some (if _ then _ else _) = _; rw [h1] <;> rfl) ?_
 refine Zag (p := pt 2 0) (v := pt 2 0) rfl rfl rfl rfl ?_
 refine Zr (p := pt 2 0) (v := .bool false) (b := 2) (blk := bxB 1 ([.bool false])) (H' := [rfB (slv 1 (nxP L p) (Zak L (nxP L p)) (Zak L (nxP L p))), Zcz ls, bxB 1 ([.bool false])]) rfl rfl rfl (by kernel_rfl) (by kernel_rfl) ?_
 refine Za (Zc (Zg (Zi (Zd rfl rfl (Iv ((Zq (ls.getD p ⟨#[]⟩)).1)) rfl (Zb rfl rfl (Iv ((Zq (ls.getD p ⟨#[]⟩)).1)) rfl (Za (Zc (Zv (Zu ?_)))))))))
 rw [show ((ok && decide (p < L)) && decide ((Zq (ls.getD p ⟨#[]⟩)).2 = 0)) = false from by simp only [*, Bool.true_and, Bool.false_and, eq_self, decide_true, decide_false]]
 exact Zm (v := Iv ((Zq (ls.getD p ⟨#[]⟩)).1)) rfl rfl rfl (by simp [Zac, Zcz, bxB, rfB, Zej, Zcp]) rfl
end Go.Flat
