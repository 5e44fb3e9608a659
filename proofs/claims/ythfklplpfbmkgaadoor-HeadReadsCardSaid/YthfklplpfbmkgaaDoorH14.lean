/- Walks and plain laws: what each theorem says, within the bounds that it names. -/
import Derived.Test.YthfklplpfbmkgaaDoorH13
set_option linter.unusedVariables false
set_option linter.unusedSimpArgs false
set_option maxRecDepth 20000
namespace Go.Flat
open Go.Proofs
variable {G : Glob}
def gK (l : Bs) (k : Nat) : Nat := (gAt l (offK l k)).2.1.toNat
def lenK (l : Bs) : Nat → Nat
  | 0 => l.length
  | k + 1 => lenK l k - gK l k
def capK (l : Bs) (c : Nat) : Nat → Nat
  | 0 => c
  | k + 1 => capK l c k - gK l k
theorem lenK_eq (l : Bs) : ∀ k, lenK l k = l.length - offK l k
  | 0 => rfl
  | k + 1 => by
    have h1 := lenK_eq l k
    show lenK l k - gK l k = l.length - (offK l k + gK l k)
    omega
theorem capK_ge {l : Bs} {c : Nat} (hc : l.length ≤ c) : ∀ k, lenK l k ≤ capK l c k
  | 0 => hc
  | k + 1 => by
    have h1 := capK_ge hc k
    show lenK l k - gK l k ≤ capK l c k - gK l k
    omega
theorem off_le {l : Bs} {k : Nat} (h : ∀ j, j < k → okK l j) (ho : ∀ j, j < k → offK l j < l.length) : offK l k ≤ l.length := by
  obtain ⟨f, h1, h2, h3⟩ := cnt_at k h ho; exact h3
theorem gK_le {l : Bs} {k : Nat} (h : errK l k = 0) (ho : offK l k ≤ l.length) : 4 ≤ gK l k ∧ gK l k ≤ lenK l k := by
  have h1 := getF_pos (l := l.drop (offK l k)) (n := l.length - offK l k) h
  have h2 := lenK_eq l k
  show 4 ≤ (gAt l (offK l k)).2.1.toNat ∧ (gAt l (offK l k)).2.1.toNat ≤ lenK l k
  unfold gAt
  omega
theorem getF_nn (l : Bs) (n : Nat) : 0 ≤ (getF l n).2.1 := by
  unfold getF
  repeat' split
  all_goals first | exact Int.le_refl _ | (dsimp only; omega)
theorem Get_k (l : Bs) (c k : Nat) (hb : l.length ≤ 1099511627776) (hlc : lenK l k = l.length - offK l k) (hof : offK l k ≤ l.length) {d : Nat} (hd : lenK l k ≤ d := by omega) : CallL Tryd.prog G 73 [slv 0 0 (lenK l k) d] [rdB ((l.drop (offK l k)).take (lenK l k))] (.tuple #[fdV (fldK l k), .int .i64 (gK l k : Nat), .int .i64 (errK l k)]) [rdB ((l.drop (offK l k)).take (lenK l k))] := by
  have e : (l.drop (offK l k)).take (lenK l k) = l.drop (offK l k) := List.take_of_length_le (by rw [List.length_drop]; omega)
  rw [e]
  have h := Get_ok (G := G) (l.drop (offK l k)) (lenK l k) d (by rw [List.length_drop]; omega) hd (by omega)
  have eg : (getF (l.drop (offK l k)) (lenK l k)).2.1 = ((gK l k : Nat) : Int) := by
    have := getF_nn (l.drop (offK l k)) (lenK l k)
    unfold gK gAt
    rw [← hlc]; omega
  rw [eg] at h
  unfold fldK errK gAt
  rw [← hlc]; exact h
theorem fields_iter (l : Bs) (c : Nat) (hc : l.length ≤ c) (hb : l.length ≤ 1099511627776) : IterL Tryd.prog G 72 [pt 6 0] (cntN l) (fun k => [fdV (fldK l k), .int .i64 (errK l k)]) [rdB l, rfB (.slice none 0 0), bxB 1 ([.int .i64 0]), rfB (slv 4 0 0 0), rwB cFd (accK l 0), bxB 1 ([.int .i64 ((lastK l 0))]), rfB (slv 0 (offK l 0) (lenK l 0) (capK l c 0))] (fun k => [rdB l, rfB (.slice none 0 0), bxB 1 ([.int .i64 0]), rfB (slv 4 0 k k), rwB cFd (accK l k), bxB 1 ([.int .i64 ((lastK l k))]), rfB (slv 0 (offK l k) (lenK l k) (capK l c k)), bxB 2 (fdC (fldK l k))]) (fun k => [rdB l, rfB (.slice none 0 0), bxB 1 ([.int .i64 0]), rfB (slv 4 0 (k + 1) (k + 1)), rwB cFd (accK l (k + 1)), bxB 1 ([.int .i64 ((lastK l (k + 1)))]), rfB (slv 0 (offK l k) (lenK l k) (capK l c k)), bxB 2 (fdC (fldK l k))]) (okK l) [rdB l, rfB (.slice none 0 0), bxB 1 ([.int .i64 0]), rfB (slv 4 0 (cntN l) (cntN l)), rwB cFd (accK l (cntN l)), bxB 1 ([.int .i64 ((lastK l (cntN l)))]), rfB (slv 0 (offK l (cntN l)) (lenK l (cntN l)) (capK l c (cntN l)))] := by
  refine iter_intro (fn := Tryd.f72) rfl rfl (nt := 27) rfl rfl rfl ?_
  intro E l' Stop hE hd hY
  refine cy_block ?_
  refine cy_loop hE (fun k : Nat => [.func (.yield l') #[] #[], pt 6 0]) (fun k : Nat => [rdB l, rfB (.slice none 0 0), bxB 1 ([.int .i64 0]), rfB (slv 4 0 k k), rwB cFd (accK l k), bxB 1 ([.int .i64 ((lastK l k))]), rfB (slv 0 (offK l k) (lenK l k) (capK l c k))]) (fun k : Nat => (∀ j, j < k → okK l j) ∧ (∀ j, j < k → offK l j < l.length)) (fun k : Nat => lenK l k) 0 ⟨fun _ h => absurd h (by omega), fun _ h => absurd h (by omega)⟩ ?_ ?_
  · refine weak_to (n := 7) rfl ?_ (by kernel_rfl) (by kernel_rfl)
    repeat (first | exact trivial | refine ⟨.inl rfl, ?_⟩ | refine ⟨.inr ⟨rfl, rfl⟩, ?_⟩ | refine ⟨.inr ⟨congrArg (Value.int .i64) (by first | omega | (dsimp only; omega)), rfl⟩, ?_⟩)
  rintro k ⟨hks, hos⟩
  refine cy_hole hE 1 (H' := [rdB l, rfB (.slice none 0 0), bxB 1 ([.int .i64 0]), rfB (slv 4 0 k k), rwB cFd (accK l k), bxB 1 ([.int .i64 ((lastK l k))]), rfB (slv 0 (offK l k) (lenK l k) (capK l c k)), hole]) rfl ?_
  have hof := off_le hks hos
  have hlc := lenK_eq l k
  have hcc := capK_ge (c := c) hc k
  refine cy_seq (cy_seq ?_)
  refine cy_reg (by kernel_rfl) ?_
  refine r_load (p := pt 6 0) (v := slv 0 (offK l k) (lenK l k) (capK l c k)) rfl rfl rfl rfl ?_
  refine r_len (p := slv 0 (offK l k) (lenK l k) (capK l c k)) (v := .int .i64 (((lenK l k) : Nat) : Int)) rfl rfl rfl rfl ?_
  by_cases h1 : 0 < (((lenK l k) : Nat) : Int)
  refine r_bin (v := .bool true) (vx := .int .i64 (((lenK l k) : Nat) : Int)) (vy := .int .i64 0) rfl rfl rfl rfl (gtr_t (by omega)) ?_
  refine r_doneN (x_round (cy_true rfl (cy_skip (x_round (cy_block (cy_seq ?_))))))
  refine cy_reg (by kernel_rfl) ?_
  refine r_load (p := pt 6 0) (v := slv 0 (offK l k) (lenK l k) (capK l c k)) rfl rfl rfl rfl ?_
  refine r_callN (e := [some (0, (offK l k))]) (nid := 0) (Get_k (G := G) l c k hb hlc hof) (vals := [slv 0 (offK l k) (lenK l k) (capK l c k)]) (v := .tuple #[fdV (fldK l k), .int .i64 (((gK l k) : Nat) : Int), .int .i64 ((errK l k))]) (H' := [rdB l, rfB (.slice none 0 0), bxB 1 ([.int .i64 0]), rfB (slv 4 0 k k), rwB cFd (accK l k), bxB 1 ([.int .i64 ((lastK l k))]), rfB (slv 0 (offK l k) (lenK l k) (capK l c k)), hole]) rfl rfl rfl rfl rfl rfl rfl ⟨⟨⟨rfl, by omega, rfl, by omega, by omega⟩, trivial⟩, ⟨(emb_rdS rfl (.inl rfl) (by omega)), trivial⟩, rfl, rfl, rfl⟩ (by kernel_rfl) (by kernel_rfl) ?_
  refine r_move (v := .tuple #[fdV (fldK l k), .int .i64 (((gK l k) : Nat) : Int), .int .i64 ((errK l k))]) rfl rfl rfl ?_
  refine r_extract (vs := #[fdV (fldK l k), .int .i64 (((gK l k) : Nat) : Int), .int .i64 ((errK l k))]) (v := fdV (fldK l k)) rfl rfl rfl rfl ?_
  refine r_extract (vs := #[fdV (fldK l k), .int .i64 (((gK l k) : Nat) : Int), .int .i64 ((errK l k))]) (v := .int .i64 (((gK l k) : Nat) : Int)) rfl rfl rfl rfl ?_
  refine r_extract (vs := #[fdV (fldK l k), .int .i64 (((gK l k) : Nat) : Int), .int .i64 ((errK l k))]) (v := .int .i64 ((errK l k))) rfl rfl rfl rfl ?_
  refine r_alloc (b := bxB 2 (fdC (⟨0, ⟨#[]⟩⟩ : Field))) (nid := 7) (H' := [rdB l, rfB (.slice none 0 0), bxB 1 ([.int .i64 0]), rfB (slv 4 0 k k), rwB cFd (accK l k), bxB 1 ([.int .i64 ((lastK l k))]), rfB (slv 0 (offK l k) (lenK l k) (capK l c k)), bxB 2 (fdC (⟨0, ⟨#[]⟩⟩ : Field))]) rfl rfl (by kernel_rfl) (by kernel_rfl) ?_
  refine r_store (p := pt 7 0) (v := fdV (fldK l k)) (b := 7) (blk := bxB 2 (fdC (fldK l k))) (H' := [rdB l, rfB (.slice none 0 0), bxB 1 ([.int .i64 0]), rfB (slv 4 0 k k), rwB cFd (accK l k), bxB 1 ([.int .i64 ((lastK l k))]), rfB (slv 0 (offK l k) (lenK l k) (capK l c k)), bxB 2 (fdC (fldK l k))]) rfl rfl rfl (by kernel_rfl) (by kernel_rfl) ?_
  refine r_assign (v := .int .i64 (((gK l k) : Nat) : Int)) rfl rfl rfl ?_
  refine r_assign (v := .int .i64 ((errK l k))) rfl rfl rfl ?_
  refine r_doneN (x_round (cy_seq (cy_seq ?_)))
  refine cy_yield (fun w' h => ⟨w', h, rfl⟩) 3 rfl rfl rfl (by kernel_rfl) ?_
  refine r_move (v := .func (.yield l') #[] #[]) rfl rfl rfl ?_
  refine r_load (p := pt 7 0) (v := fdV (fldK l k)) rfl rfl rfl (by kernel_rfl) ?_
  refine r_move (v := .int .i64 ((errK l k))) rfl rfl rfl ?_
  refine r_done ?_
  show YGoal _ _ _ _ _ _ _ _ _ _ _ _ _
  unfold YGoal
  refine ⟨l', [fdV (fldK l k), .int .i64 ((errK l k))], [rdB l, rfB (.slice none 0 0), bxB 1 ([.int .i64 0]), rfB (slv 4 0 (k + 1) (k + 1)), rwB cFd (accK l (k + 1)), bxB 1 ([.int .i64 ((lastK l (k + 1)))]), rfB (slv 0 (offK l k) (lenK l k) (capK l c k)), bxB 2 (fdC (fldK l k))], okK l k, rfl, rfl, by decide, hY k (lt_cnt hks hos (by omega)) hks, fun hok => ?_, ?_⟩
  have he : errK l k = 0 := hok.1
  have hg := gK_le he hof
  have hp := offK_lt he
  refine r_un (v := .bool false) (vx := .bool true) rfl rfl rfl un_not ?_
  refine r_move (v := .bool false) rfl rfl rfl ?_
  refine r_move (v := .int .i64 ((errK l k))) rfl rfl rfl ?_
  refine r_bin (v := .bool false) (vx := .int .i64 ((errK l k))) (vy := .int .i64 0) rfl rfl rfl rfl (neq_f (by omega)) ?_
  refine r_pick (v := .bool false) rfl rfl rfl ?_
  refine r_doneN (x_round (cy_false rfl (cy_skip (x_round ?_))))
  refine cy_reg (by kernel_rfl) ?_
  refine r_load (p := pt 6 0) (v := slv 0 (offK l k) (lenK l k) (capK l c k)) rfl rfl rfl rfl ?_
  refine r_move (v := .int .i64 (((gK l k) : Nat) : Int)) rfl rfl rfl ?_
  refine r_slice (p := slv 0 (offK l k) (lenK l k) (capK l c k)) (vl := some (.int .i64 (((gK l k) : Nat) : Int))) (vh := none) (v := slv 0 ((offK l k) + (gK l k)) ((lenK l k) - (gK l k)) ((capK l c k) - (gK l k))) rfl rfl rfl rfl rfl (slice_lo (sz := 1) (l := (gK l k)) rfl rfl rfl (by omega) (by omega) (by omega) rfl (by omega) (by omega) (by omega)) ?_
  refine r_store (p := pt 6 0) (v := slv 0 ((offK l k) + (gK l k)) ((lenK l k) - (gK l k)) ((capK l c k) - (gK l k))) (b := 6) (blk := rfB (slv 0 ((offK l k) + (gK l k)) ((lenK l k) - (gK l k)) ((capK l c k) - (gK l k)))) (H' := [rdB l, rfB (.slice none 0 0), bxB 1 ([.int .i64 0]), rfB (slv 4 0 (k + 1) (k + 1)), rwB cFd (accK l (k + 1)), bxB 1 ([.int .i64 ((lastK l (k + 1)))]), rfB (slv 0 ((offK l k) + (gK l k)) ((lenK l k) - (gK l k)) ((capK l c k) - (gK l k))), bxB 2 (fdC (fldK l k))]) rfl rfl rfl (by kernel_rfl) (by kernel_rfl) ?_
  refine r_doneN (x_blockN ?_)
  refine x_round ⟨(k + 1), ⟨fun j hj => by rcases Nat.lt_or_ge j k with h | h; exact hks j h; obtain rfl : j = k := (by omega); exact hok, fun j hj => by rcases Nat.lt_or_ge j k with h | h; exact hos j h; obtain rfl : j = k := (by omega); omega⟩, by show lenK l k - gK l k < lenK l k; omega, ?_⟩
  refine weak_to (n := 7) rfl ?_ (by kernel_rfl) (by kernel_rfl)
  repeat (first | exact trivial | refine ⟨.inl rfl, ?_⟩ | refine ⟨.inr ⟨rfl, rfl⟩, ?_⟩ | refine ⟨.inr ⟨congrArg (Value.int .i64) (by first | omega | (dsimp only; omega)), rfl⟩, ?_⟩)
  refine r_un (v := .bool true) (vx := .bool false) rfl rfl rfl un_not ?_
  refine r_move (v := .bool true) rfl rfl rfl ?_
  refine r_skip rfl rfl (r_skip rfl rfl ?_)
  refine r_pick (v := .bool true) rfl rfl rfl ?_
  refine r_doneN (x_round (cr_true rfl (cr_ret (x_leaveR (x_blockR (x_leaveR (x_blockR ?_)))))))
  exact ⟨.inr rfl⟩
  refine r_bin (v := .bool false) (vx := .int .i64 (((lenK l k) : Nat) : Int)) (vy := .int .i64 0) rfl rfl rfl rfl (gtr_f (by omega)) ?_
  refine r_doneN (x_round (cy_false rfl (cy_exit (x_leaveE (x_leaveE (x_block rfl ?_))))))
  have e := cnt_eq hks hos (by omega)
  exact ⟨⟨.inl rfl, fun j hj => hks j (by omega), _, by rw [e]; exact weak_to (l := []) (n := 7) rfl trivial (by kernel_rfl) (by kernel_rfl)⟩⟩
end Go.Flat
