/- Walks and plain laws: what each theorem says, within the bounds that it names. -/
import Derived.Test.YtgmnjggeffdjhaaDoorA4
set_option linter.unusedVariables false
set_option linter.unusedSimpArgs false
set_option maxRecDepth 20000
namespace Go.Flat
open Go.Proofs
variable {G : Glob}
theorem AnchorsLast_ok (kk : Nat → BitVec 32) (hG : G 1 = some (rowE w32 64 kk)) (l : List Item) (c : Nat) (hl : l.length ≤ c) (hcc : c ≤ 9223372036854775807) (region size : Int) : CallL Tryd.prog G 5 [slv 0 0 l.length c, .int .i64 region, .int .i64 size] [rwR cItem l] (.bool true) [rwR cItem l] := by
  refine walk (fn := Tryd.f5) (nt := 102) rfl rfl rfl rfl ?_
  refine c_hole 1 (H' := [rwR cItem l, hole]) rfl ?_
  refine c_seq ?_
  refine c_reg ?_
  refine r_assign (v := .bool false) rfl rfl rfl ?_
  refine r_doneN ?_
  refine x_then ?_
  refine c_seq ?_
  refine c_seq ?_
  refine c_reg ?_
  refine r_move (v := slv 0 0 l.length c) rfl rfl rfl ?_
  refine r_callN (e := [some (0, 0)]) (nid := 0) (refBig_ok (G := G) l l.length c rfl (by omega) (by omega)) (vals := [slv 0 0 l.length c]) (v := .bool (bigB l)) (H' := [rwR cItem l, hole]) rfl rfl rfl rfl rfl rfl rfl ⟨⟨⟨rfl, rfl, rfl, by first | omega | exact Nat.le_refl _, by first | omega | exact Nat.le_refl _⟩, trivial⟩, ⟨(emb_rwR rfl), trivial⟩, rfl, rfl, rfl⟩ rfl (by kernel_rfl) ?_
  refine r_doneN ?_
  refine x_then ?_
  rcases Bool.eq_false_or_eq_true (bigB l) with h1 | h1
  · skip
    refine c_true (congrArg Value.bool h1) ?_
    refine c_seq ?_
    refine c_reg ?_
    refine r_assign (v := .bool true) rfl rfl rfl ?_
    refine r_doneN ?_
    refine x_then ?_
    refine c_ret ?_
    refine x_thenR ?_
    refine x_end ?_
    exact end_map [0] (v := .bool true) rfl (by kernel_rfl) rfl rfl (by decide) (by simp [keptB, rwR, cItem]) rfl
  refine c_false (congrArg Value.bool h1) ?_
  refine c_skip ?_
  refine x_then ?_
  refine c_seq ?_
  have hn60 : l.length ≤ 60 := bigB_len (by assumption)
  refine c_reg ?_
  refine r_move (v := slv 0 0 l.length c) rfl rfl rfl ?_
  refine r_move (v := .int .i64 region) rfl rfl rfl ?_
  refine r_callN (e := [some (0, 0)]) (nid := 0) (Latest_ok (G := G) l l.length c rfl (by omega) (by omega) region) (vals := [slv 0 0 l.length c, .int .i64 region]) (v := .tuple #[signedV ((latL l region).1), .bool ((latL l region).2)]) (H' := [rwR cItem l, hole]) rfl rfl rfl rfl rfl rfl rfl ⟨⟨⟨rfl, rfl, rfl, by first | omega | exact Nat.le_refl _, by first | omega | exact Nat.le_refl _⟩, rfl, trivial⟩, ⟨(emb_rwR rfl), trivial⟩, rfl, rfl, rfl⟩ (by kernel_rfl) (by kernel_rfl) ?_
  refine r_move (v := .tuple #[signedV ((latL l region).1), .bool ((latL l region).2)]) rfl rfl rfl ?_
  refine r_extract (vs := #[signedV ((latL l region).1), .bool ((latL l region).2)]) (v := signedV ((latL l region).1)) rfl rfl rfl rfl ?_
  refine r_extract (vs := #[signedV ((latL l region).1), .bool ((latL l region).2)]) (v := .bool ((latL l region).2)) rfl rfl rfl rfl ?_
  refine r_alloc (b := bxB 69 (signedC (⟨(⟨0, 0, 0, dz, 0⟩ : Head), 0, dz⟩ : Signed))) (nid := 1) (H' := [rwR cItem l, bxB 69 (signedC (⟨(⟨0, 0, 0, dz, 0⟩ : Head), 0, dz⟩ : Signed))]) rfl rfl (by kernel_rfl) (by kernel_rfl) ?_
  refine r_store (p := pt 1 0) (v := signedV ((latL l region).1)) (b := 1) (blk := bxB 69 (signedC ((latL l region).1))) (H' := [rwR cItem l, bxB 69 (signedC ((latL l region).1))]) rfl rfl rfl (by kernel_rfl) (by kernel_rfl) ?_
  refine r_assign (v := .bool ((latL l region).2)) rfl rfl rfl ?_
  refine r_doneN ?_
  refine x_then ?_
  refine c_seq ?_
  refine c_reg ?_
  refine r_assign (v := .int .i64 (-1)) rfl rfl rfl ?_
  refine r_doneN ?_
  refine x_then ?_
  refine c_seq ?_
  refine c_reg ?_
  refine r_assign (v := .int .i64 (-1)) rfl rfl rfl ?_
  refine r_doneN ?_
  refine x_then ?_
  refine c_seq ?_
  refine c_seq ?_
  refine c_reg ?_
  refine r_assign (v := .int .i64 0) rfl rfl rfl ?_
  refine r_doneN ?_
  refine x_then ?_
  refine c_block ?_
  refine c_loopN (fun x : Nat × Int × Int => match x with | (i, at_, fi) => [slv 0 0 l.length c, .int .i64 region, .int .i64 size, dead, dead, dead, .bool false, pt 1 0, .bool ((latL l region).2), .int .i64 at_, .int .i64 fi, .int .i64 (i : Nat), dead, dead, dead, dead, slv 0 0 l.length c, .bool (bigB l), .tuple #[signedV ((latL l region).1), .bool ((latL l region).2)], slv 0 0 l.length c, .int .i64 region, .tuple #[signedV ((latL l region).1), .bool ((latL l region).2)], signedV ((latL l region).1), .bool ((latL l region).2)]) (fun x : Nat × Int × Int => match x with | (i, at_, fi) => [rwR cItem l, bxB 69 (signedC ((latL l region).1))]) (fun x : Nat × Int × Int => match x with | (i, at_, fi) => lastI l region i at_ ∧ firstI l region size i fi ∧ i ≤ l.length) (fun x : Nat × Int × Int => match x with | (i, at_, fi) => l.length - i) (0, (-1), (-1)) ⟨lastI_zero, firstI_zero, by omega⟩ ?_ ?_
  · refine weak_to (n := 2) rfl ?_ (by kernel_rfl) (by kernel_rfl)
    repeat (first | exact trivial | refine ⟨.inl rfl, ?_⟩ | refine ⟨.inr ⟨rfl, rfl⟩, ?_⟩ | refine ⟨.inr ⟨congrArg (Value.int .i64) (by first | omega | (dsimp only; omega)), rfl⟩, ?_⟩)
  rintro ⟨i, at_, fi⟩ ⟨hR, hR2, hi⟩
  dsimp only at *
  refine c_hole 1 (H' := [rwR cItem l, bxB 69 (signedC ((latL l region).1)), hole]) rfl ?_
  refine c_seq ?_
  refine c_seq ?_
  refine c_reg ?_
  refine r_move (v := .int .i64 (i : Nat)) rfl rfl rfl ?_
  refine r_move (v := slv 0 0 l.length c) rfl rfl rfl ?_
  refine r_len (p := slv 0 0 l.length c) (v := .int .i64 (l.length : Nat)) rfl rfl rfl rfl ?_
  by_cases h2 : (i : Nat) < (l.length : Nat)
  · skip
    refine r_bin (v := .bool true) (vx := .int .i64 (i : Nat)) (vy := .int .i64 (l.length : Nat)) rfl rfl rfl rfl (lss_t (by omega)) ?_
    refine r_doneN ?_
    refine x_then ?_
    refine c_true rfl ?_
    refine c_skip ?_
    refine x_then ?_
    refine c_seq ?_
    refine c_block ?_
    refine c_seq ?_
    refine c_reg ?_
    refine r_move (v := slv 0 0 l.length c) rfl rfl rfl ?_
    refine r_move (v := .int .i64 (i : Nat)) rfl rfl rfl ?_
    refine r_idxS (b := 0) (o := 0) (j := i * 110) (m := l.length) (c := c) (sz := 110) (i := (i : Nat)) (k := .i64) rfl rfl rfl rfl rfl (by omega) (by omega) (by omega) ?_
    refine r_fieldAddr (b := 0) (o := i * 110) (n := 1) (o' := i * 110 + 1) rfl rfl rfl rfl (by omega) ?_
    refine r_load (p := pt 0 (i * 110 + 1)) (v := entV ((l.getD i default).entry)) rfl rfl rfl (load_fldN cItem (l := l) (i := i) (k := 1) (m := 110) rfl rfl rfl rfl (by omega) (by omega) (by decide) (by kernel_rfl)) ?_
    refine r_alloc (b := bxB 109 (entC (⟨0, 0, 0, ⟨#[]⟩, (⟨(⟨0, 0, 0, dz, 0⟩ : Head), 0, dz⟩ : Signed), (⟨0, 0, 0, 0, dz⟩ : Claim)⟩ : Entry))) (nid := 2) (H' := [rwR cItem l, bxB 69 (signedC ((latL l region).1)), bxB 109 (entC (⟨0, 0, 0, ⟨#[]⟩, (⟨(⟨0, 0, 0, dz, 0⟩ : Head), 0, dz⟩ : Signed), (⟨0, 0, 0, 0, dz⟩ : Claim)⟩ : Entry))]) rfl rfl (by kernel_rfl) (by kernel_rfl) ?_
    refine r_store (p := pt 2 0) (v := entV ((l.getD i default).entry)) (b := 2) (blk := bxB 109 (entC ((l.getD i default).entry))) (H' := [rwR cItem l, bxB 69 (signedC ((latL l region).1)), bxB 109 (entC ((l.getD i default).entry))]) rfl rfl rfl (by kernel_rfl) (by kernel_rfl) ?_
    refine r_doneN ?_
    refine x_then ?_
    refine c_seq ?_
    refine c_seq ?_
    refine c_reg ?_
    refine r_fieldAddr (b := 2) (o := 0) (n := 0) (o' := 0) rfl rfl rfl rfl rfl ?_
    refine r_load (p := pt 2 0) (v := .int .i64 ((((l.getD i default).entry).kind))) rfl rfl rfl (by kernel_rfl) ?_
    by_cases h3 : ((((l.getD i default).entry).kind)) ≠ 2
    · skip
      refine r_bin (v := .bool true) (vx := .int .i64 ((((l.getD i default).entry).kind))) (vy := .int .i64 2) rfl rfl rfl rfl (neq_t (by omega)) ?_
      refine r_move (v := .bool true) rfl rfl rfl ?_
      refine r_skip rfl rfl ?_
      refine r_skip rfl rfl ?_
      refine r_skip rfl rfl ?_
      refine r_skip rfl rfl ?_
      refine r_skip rfl rfl ?_
      refine r_skip rfl rfl ?_
      refine r_pick (v := .bool true) rfl rfl rfl ?_
      refine r_doneN ?_
      refine x_then ?_
      refine c_true rfl ?_
      refine c_exit ?_
      refine x_thenE ?_
      refine x_block rfl ?_
      refine x_then ?_
      refine c_reg ?_
      refine r_move (v := .int .i64 (i : Nat)) rfl rfl rfl ?_
      refine r_bin (v := .int .i64 ((i : Nat) + 1)) (vx := .int .i64 (i : Nat)) (vy := .int .i64 1) rfl rfl rfl rfl (bin_add (by omega) (by omega) (by omega)) ?_
      refine r_assign (v := .int .i64 ((i : Nat) + 1)) rfl rfl rfl ?_
      refine r_doneN ?_
      refine x_round ⟨((i + 1), at_, fi), ⟨lastI_no hR (by omega) (fun q => by have := q.1; have := q.2; omega), firstI_keep hR2 (by omega) (by first | (exact .inl (by omega)) | (exact .inr (fun q => by have := q.1; have := q.2.1; have := q.2.2; omega))), by dsimp only; omega⟩, by show l.length - (i + 1) < l.length - i; omega, ?_⟩
      refine weak_to (n := 2) rfl ?_ (by kernel_rfl) (by kernel_rfl)
      repeat (first | exact trivial | refine ⟨.inl rfl, ?_⟩ | refine ⟨.inr ⟨rfl, rfl⟩, ?_⟩ | refine ⟨.inr ⟨congrArg (Value.int .i64) (by first | omega | (dsimp only; omega)), rfl⟩, ?_⟩)
    refine r_bin (v := .bool false) (vx := .int .i64 ((((l.getD i default).entry).kind))) (vy := .int .i64 2) rfl rfl rfl rfl (neq_f (by omega)) ?_
    refine r_move (v := .bool false) rfl rfl rfl ?_
    refine r_fieldAddr (b := 2) (o := 0) (n := 4) (o' := 4) rfl rfl rfl rfl rfl ?_
    refine r_fieldAddr (b := 2) (o := 4) (n := 0) (o' := 4) rfl rfl rfl rfl rfl ?_
    refine r_fieldAddr (b := 2) (o := 4) (n := 0) (o' := 4) rfl rfl rfl rfl rfl ?_
    refine r_load (p := pt 2 4) (v := .int .i64 ((((((l.getD i default).entry).head).head).region))) rfl rfl rfl (by kernel_rfl) ?_
    refine r_move (v := .int .i64 region) rfl rfl rfl ?_
    by_cases h4 : ((((((l.getD i default).entry).head).head).region)) ≠ region
    · skip
      refine r_bin (v := .bool true) (vx := .int .i64 ((((((l.getD i default).entry).head).head).region))) (vy := .int .i64 region) rfl rfl rfl rfl (neq_t (by omega)) ?_
      refine r_pick (v := .bool true) rfl rfl rfl ?_
      refine r_doneN ?_
      refine x_then ?_
      refine c_true rfl ?_
      refine c_exit ?_
      refine x_thenE ?_
      refine x_block rfl ?_
      refine x_then ?_
      refine c_reg ?_
      refine r_move (v := .int .i64 (i : Nat)) rfl rfl rfl ?_
      refine r_bin (v := .int .i64 ((i : Nat) + 1)) (vx := .int .i64 (i : Nat)) (vy := .int .i64 1) rfl rfl rfl rfl (bin_add (by omega) (by omega) (by omega)) ?_
      refine r_assign (v := .int .i64 ((i : Nat) + 1)) rfl rfl rfl ?_
      refine r_doneN ?_
      refine x_round ⟨((i + 1), at_, fi), ⟨lastI_no hR (by omega) (fun q => by have := q.1; have := q.2; omega), firstI_keep hR2 (by omega) (by first | (exact .inl (by omega)) | (exact .inr (fun q => by have := q.1; have := q.2.1; have := q.2.2; omega))), by dsimp only; omega⟩, by show l.length - (i + 1) < l.length - i; omega, ?_⟩
      refine weak_to (n := 2) rfl ?_ (by kernel_rfl) (by kernel_rfl)
      repeat (first | exact trivial | refine ⟨.inl rfl, ?_⟩ | refine ⟨.inr ⟨rfl, rfl⟩, ?_⟩ | refine ⟨.inr ⟨congrArg (Value.int .i64) (by first | omega | (dsimp only; omega)), rfl⟩, ?_⟩)
    refine r_bin (v := .bool false) (vx := .int .i64 ((((((l.getD i default).entry).head).head).region))) (vy := .int .i64 region) rfl rfl rfl rfl (neq_f (by omega)) ?_
    refine r_pick (v := .bool false) rfl rfl rfl ?_
    refine r_doneN ?_
    refine x_then ?_
    refine c_false rfl ?_
    refine c_skip ?_
    refine x_then ?_
    refine c_seq ?_
    refine c_reg ?_
    refine r_move (v := .int .i64 (i : Nat)) rfl rfl rfl ?_
    refine r_assign (v := .int .i64 (i : Nat)) rfl rfl rfl ?_
    refine r_doneN ?_
    refine x_then ?_
    refine c_seq ?_
    refine c_reg ?_
    refine r_move (v := .int .i64 fi) rfl rfl rfl ?_
    by_cases h5 : fi < 0
    · skip
      refine r_bin (v := .bool true) (vx := .int .i64 fi) (vy := .int .i64 0) rfl rfl rfl rfl (lss_t (by omega)) ?_
      refine r_move (v := .bool true) rfl rfl rfl ?_
      refine r_fieldAddr (b := 2) (o := 0) (n := 4) (o' := 4) rfl rfl rfl rfl rfl ?_
      refine r_fieldAddr (b := 2) (o := 4) (n := 0) (o' := 4) rfl rfl rfl rfl rfl ?_
      refine r_fieldAddr (b := 2) (o := 4) (n := 2) (o' := 6) rfl rfl rfl rfl rfl ?_
      refine r_load (p := pt 2 6) (v := .int .i64 ((((((l.getD i default).entry).head).head).size))) rfl rfl rfl (by kernel_rfl) ?_
      refine r_move (v := .int .i64 size) rfl rfl rfl ?_
      by_cases h6 : size < ((((((l.getD i default).entry).head).head).size))
      · skip
        refine r_bin (v := .bool true) (vx := .int .i64 ((((((l.getD i default).entry).head).head).size))) (vy := .int .i64 size) rfl rfl rfl rfl (gtr_t (by omega)) ?_
        refine r_pick (v := .bool true) rfl rfl rfl ?_
        refine r_doneN ?_
        refine x_then ?_
        refine c_true rfl ?_
        refine c_reg ?_
        refine r_move (v := .int .i64 (i : Nat)) rfl rfl rfl ?_
        refine r_assign (v := .int .i64 (i : Nat)) rfl rfl rfl ?_
        refine r_doneN ?_
        refine x_blockN ?_
        refine x_then ?_
        refine c_reg ?_
        refine r_move (v := .int .i64 (i : Nat)) rfl rfl rfl ?_
        refine r_bin (v := .int .i64 ((i : Nat) + 1)) (vx := .int .i64 (i : Nat)) (vy := .int .i64 1) rfl rfl rfl rfl (bin_add (by omega) (by omega) (by omega)) ?_
        refine r_assign (v := .int .i64 ((i : Nat) + 1)) rfl rfl rfl ?_
        refine r_doneN ?_
        refine x_round ⟨((i + 1), (i : Nat), (i : Nat)), ⟨lastI_yes hR (by omega) ⟨by omega, by omega⟩, firstI_put hR2 (by omega) (by omega) ⟨by omega, by omega, by omega⟩, by dsimp only; omega⟩, by show l.length - (i + 1) < l.length - i; omega, ?_⟩
        refine weak_to (n := 2) rfl ?_ (by kernel_rfl) (by kernel_rfl)
        repeat (first | exact trivial | refine ⟨.inl rfl, ?_⟩ | refine ⟨.inr ⟨rfl, rfl⟩, ?_⟩ | refine ⟨.inr ⟨congrArg (Value.int .i64) (by first | omega | (dsimp only; omega)), rfl⟩, ?_⟩)
      refine r_bin (v := .bool false) (vx := .int .i64 ((((((l.getD i default).entry).head).head).size))) (vy := .int .i64 size) rfl rfl rfl rfl (gtr_f (by omega)) ?_
      refine r_pick (v := .bool false) rfl rfl rfl ?_
      refine r_doneN ?_
      refine x_then ?_
      refine c_false rfl ?_
      refine c_skip ?_
      refine x_blockN ?_
      refine x_then ?_
      refine c_reg ?_
      refine r_move (v := .int .i64 (i : Nat)) rfl rfl rfl ?_
      refine r_bin (v := .int .i64 ((i : Nat) + 1)) (vx := .int .i64 (i : Nat)) (vy := .int .i64 1) rfl rfl rfl rfl (bin_add (by omega) (by omega) (by omega)) ?_
      refine r_assign (v := .int .i64 ((i : Nat) + 1)) rfl rfl rfl ?_
      refine r_doneN ?_
      refine x_round ⟨((i + 1), (i : Nat), fi), ⟨lastI_yes hR (by omega) ⟨by omega, by omega⟩, firstI_keep hR2 (by omega) (by first | (exact .inl (by omega)) | (exact .inr (fun q => by have := q.1; have := q.2.1; have := q.2.2; omega))), by dsimp only; omega⟩, by show l.length - (i + 1) < l.length - i; omega, ?_⟩
      refine weak_to (n := 2) rfl ?_ (by kernel_rfl) (by kernel_rfl)
      repeat (first | exact trivial | refine ⟨.inl rfl, ?_⟩ | refine ⟨.inr ⟨rfl, rfl⟩, ?_⟩ | refine ⟨.inr ⟨congrArg (Value.int .i64) (by first | omega | (dsimp only; omega)), rfl⟩, ?_⟩)
    refine r_bin (v := .bool false) (vx := .int .i64 fi) (vy := .int .i64 0) rfl rfl rfl rfl (lss_f (by omega)) ?_
    refine r_move (v := .bool false) rfl rfl rfl ?_
    refine r_skip rfl rfl ?_
    refine r_skip rfl rfl ?_
    refine r_skip rfl rfl ?_
    refine r_skip rfl rfl ?_
    refine r_skip rfl rfl ?_
    refine r_skip rfl rfl ?_
    refine r_pick (v := .bool false) rfl rfl rfl ?_
    refine r_doneN ?_
    refine x_then ?_
    refine c_false rfl ?_
    refine c_skip ?_
    refine x_blockN ?_
    refine x_then ?_
    refine c_reg ?_
    refine r_move (v := .int .i64 (i : Nat)) rfl rfl rfl ?_
    refine r_bin (v := .int .i64 ((i : Nat) + 1)) (vx := .int .i64 (i : Nat)) (vy := .int .i64 1) rfl rfl rfl rfl (bin_add (by omega) (by omega) (by omega)) ?_
    refine r_assign (v := .int .i64 ((i : Nat) + 1)) rfl rfl rfl ?_
    refine r_doneN ?_
    refine x_round ⟨((i + 1), (i : Nat), fi), ⟨lastI_yes hR (by omega) ⟨by omega, by omega⟩, firstI_keep hR2 (by omega) (by first | (exact .inl (by omega)) | (exact .inr (fun q => by have := q.1; have := q.2.1; have := q.2.2; omega))), by dsimp only; omega⟩, by show l.length - (i + 1) < l.length - i; omega, ?_⟩
    refine weak_to (n := 2) rfl ?_ (by kernel_rfl) (by kernel_rfl)
    repeat (first | exact trivial | refine ⟨.inl rfl, ?_⟩ | refine ⟨.inr ⟨rfl, rfl⟩, ?_⟩ | refine ⟨.inr ⟨congrArg (Value.int .i64) (by first | omega | (dsimp only; omega)), rfl⟩, ?_⟩)
  refine r_bin (v := .bool false) (vx := .int .i64 (i : Nat)) (vy := .int .i64 (l.length : Nat)) rfl rfl rfl rfl (lss_f (by omega)) ?_
  refine r_doneN ?_
  refine x_then ?_
  refine c_false rfl ?_
  refine c_exit ?_
  refine x_thenE ?_
  refine x_leaveE ?_
  refine x_block rfl ?_
  refine x_then ?_
  refine c_seq ?_
  have e1 : i = l.length := by omega
  have hl1 := last_end (e1 ▸ hR)
  have hf1 := first_end (e1 ▸ hR2)
  have hat : at_ < (l.length : Int) := by rcases hl1 with q | q <;> omega
  refine c_reg ?_
  refine r_move (v := slv 0 0 l.length c) rfl rfl rfl ?_
  refine r_move (v := .int .i64 region) rfl rfl rfl ?_
  refine r_move (v := .int .i64 size) rfl rfl rfl ?_
  refine r_callN (e := [some (0, 0)]) (nid := 0) (Place_ok (G := G) l l.length c rfl (by omega) (by omega) region size) (vals := [slv 0 0 l.length c, .int .i64 region, .int .i64 size]) (v := .tuple #[.int .i64 (((plL l region size).1)), .bool ((plL l region size).2)]) (H' := [rwR cItem l, bxB 69 (signedC ((latL l region).1)), hole]) rfl rfl rfl rfl rfl rfl rfl ⟨⟨⟨rfl, rfl, rfl, by first | omega | exact Nat.le_refl _, by first | omega | exact Nat.le_refl _⟩, rfl, rfl, trivial⟩, ⟨(emb_rwR rfl), trivial⟩, rfl, rfl, rfl⟩ (by kernel_rfl) (by kernel_rfl) ?_
  refine r_move (v := .tuple #[.int .i64 (((plL l region size).1)), .bool ((plL l region size).2)]) rfl rfl rfl ?_
  refine r_extract (vs := #[.int .i64 (((plL l region size).1)), .bool ((plL l region size).2)]) (v := .int .i64 (((plL l region size).1))) rfl rfl rfl rfl ?_
  refine r_extract (vs := #[.int .i64 (((plL l region size).1)), .bool ((plL l region size).2)]) (v := .bool ((plL l region size).2)) rfl rfl rfl rfl ?_
  refine r_assign (v := .int .i64 (((plL l region size).1))) rfl rfl rfl ?_
  refine r_assign (v := .bool ((plL l region size).2)) rfl rfl rfl ?_
  refine r_doneN ?_
  refine x_then ?_
  refine c_seq ?_
  refine c_draw (by kernel_rfl) ?_
  refine r_move (v := .bool ((latL l region).2)) rfl rfl rfl ?_
  refine r_move (v := .int .i64 at_) rfl rfl rfl ?_
  by_cases h7 : 0 ≤ at_
  · skip
    refine r_bin (v := .bool true) (vx := .int .i64 at_) (vy := .int .i64 0) rfl rfl rfl rfl (geq_t (by omega)) ?_
    rcases Bool.eq_false_or_eq_true ((latL l region).2) with h8 | h8
    · skip
      refine r_bin (v := .bool true) (vx := .bool ((latL l region).2)) (vy := .bool true) rfl rfl rfl rfl (eqlB' rfl h8 rfl) ?_
      refine r_move (v := .bool true) rfl rfl rfl ?_
      refine r_move (v := .bool ((latL l region).2)) rfl rfl rfl ?_
      refine r_un (v := .bool false) (vx := .bool ((latL l region).2)) rfl rfl rfl (Eq.trans un_not (congrArg (fun b => some (Value.bool !b)) h8)) ?_
      refine r_move (v := .bool false) rfl rfl rfl ?_
      refine r_move (v := slv 0 0 l.length c) rfl rfl rfl ?_
      refine r_move (v := .int .i64 at_) rfl rfl rfl ?_
      refine r_idxS (b := 0) (o := 0) (j := at_.toNat * 110) (m := l.length) (c := c) (sz := 110) (i := at_) (k := .i64) rfl rfl rfl rfl rfl (by omega) (by omega) (by omega) ?_
      refine r_fieldAddr (b := 0) (o := at_.toNat * 110) (n := 1) (o' := at_.toNat * 110 + 1) rfl rfl rfl rfl (by omega) ?_
      refine r_fieldAddr (b := 0) (o := at_.toNat * 110 + 1) (n := 4) (o' := at_.toNat * 110 + 5) rfl rfl rfl rfl (by omega) ?_
      refine r_load (p := pt 0 (at_.toNat * 110 + 5)) (v := signedV (((l.getD at_.toNat default).entry).head)) rfl rfl rfl (load_fldN cItem (l := l) (i := at_.toNat) (k := 5) (m := 110) rfl rfl rfl rfl (by omega) (by omega) (by decide) (by kernel_rfl)) ?_
      refine r_load (p := pt 1 0) (v := signedV ((latL l region).1)) rfl rfl rfl (by kernel_rfl) ?_
      rcases Bool.eq_false_or_eq_true (eqSigned (((l.getD at_.toNat default).entry).head) ((latL l region).1)) with h9 | h9
      · skip
        refine r_bin (v := .bool true) (vx := signedV (((l.getD at_.toNat default).entry).head)) (vy := signedV ((latL l region).1)) rfl rfl rfl rfl (Eq.trans (eql_Signed (((l.getD at_.toNat default).entry).head) ((latL l region).1)) (by rw [h9] <;> rfl)) ?_
        refine r_pick (v := .bool true) rfl rfl rfl ?_
        refine r_pick (v := .bool true) rfl rfl rfl ?_
        refine r_assign (v := .bool true) rfl rfl rfl ?_
        refine r_doneD (drawnT_ok [[], [], [1], [0, 1, 2], [0, 1, 2, 3], [0, 1, 2, 3, 4], [0, 1, 2, 3, 4, 5], [0, 1, 2, 3, 4, 5, 6], [0, 1, 2, 3, 4, 5, 6, 7], [0, 1, 2, 3, 4, 5, 6, 7], [0, 1, 2, 3, 4, 5, 6, 7, 8, 9], [0, 1, 2, 3, 4, 5, 6, 7, 8, 9, 10], [0, 1, 2, 3, 4, 5, 6, 7, 8, 9, 10, 11], [0, 1, 2, 3, 4, 5, 6, 7, 8, 9, 10, 11, 12], [0, 1, 2, 3, 4, 5, 6, 7], [0, 1, 2, 3, 4, 5, 6, 7, 8, 9, 10, 11, 12, 13, 14], [0, 1, 2, 3, 4, 5, 6, 7, 8, 9, 10, 11, 12, 13, 14, 15], [0, 1, 2, 3, 4, 5, 6, 7, 8, 9, 10, 11, 12, 13, 14, 15, 16], [0, 1, 2, 3, 4, 5, 6, 7, 8, 9, 10, 11, 12, 13, 14, 15, 16, 17]] (by kernel_rfl) (by kernel_rfl)) ?_
        refine x_then ?_
        refine c_seq ?_
        refine c_reg ?_
        refine r_callP (admits_ok (G := G) kk hG) (vals := []) (res' := .bool true) rfl rfl rfl rfl rfl rfl ?_
        refine r_move (v := .bool true) rfl rfl rfl ?_
        refine r_move (v := .bool true) rfl rfl rfl ?_
        refine r_pick (v := .bool true) rfl rfl rfl ?_
        refine r_move (v := .bool true) rfl rfl rfl ?_
        refine r_move (v := .bool ((plL l region size).2)) rfl rfl rfl ?_
        refine r_move (v := .int .i64 fi) rfl rfl rfl ?_
        by_cases h10 : 0 ≤ fi
        · skip
          refine r_bin (v := .bool true) (vx := .int .i64 fi) (vy := .int .i64 0) rfl rfl rfl rfl (geq_t (by omega)) ?_
          rcases Bool.eq_false_or_eq_true ((plL l region size).2) with h11 | h11
          · skip
            refine r_bin (v := .bool true) (vx := .bool ((plL l region size).2)) (vy := .bool true) rfl rfl rfl rfl (eqlB' rfl h11 rfl) ?_
            refine r_pick (v := .bool true) rfl rfl rfl ?_
            refine r_move (v := .bool true) rfl rfl rfl ?_
            refine r_move (v := .bool ((plL l region size).2)) rfl rfl rfl ?_
            refine r_un (v := .bool false) (vx := .bool ((plL l region size).2)) rfl rfl rfl (Eq.trans un_not (congrArg (fun b => some (Value.bool !b)) h11)) ?_
            refine r_move (v := .bool false) rfl rfl rfl ?_
            refine r_move (v := .int .i64 (((plL l region size).1))) rfl rfl rfl ?_
            refine r_move (v := .int .i64 fi) rfl rfl rfl ?_
            by_cases h12 : (((plL l region size).1)) = fi
            · skip
              refine r_bin (v := .bool true) (vx := .int .i64 (((plL l region size).1))) (vy := .int .i64 fi) rfl rfl rfl rfl (eql_t (by omega)) ?_
              refine r_pick (v := .bool true) rfl rfl rfl ?_
              refine r_pick (v := .bool true) rfl rfl rfl ?_
              refine r_assign (v := .bool true) rfl rfl rfl ?_
              refine r_doneN ?_
              refine x_then ?_
              refine c_ret ?_
              refine x_end ?_
              exact end_map [0] (v := .bool true) rfl (by kernel_rfl) rfl rfl (by decide) (by simp [keptB, rwR, cItem]) rfl
            refine r_bin (v := .bool false) (vx := .int .i64 (((plL l region size).1))) (vy := .int .i64 fi) rfl rfl rfl rfl (eql_f (by omega)) ?_
            refine r_pick (v := .bool false) rfl rfl rfl ?_
            refine r_pick (v := .bool false) rfl rfl rfl ?_
            refine r_assign (v := .bool false) rfl rfl rfl ?_
            refine r_doneN ?_
            refine x_then ?_
            refine c_ret ?_
            refine x_end ?_
            exfalso
            rcases hl1 with ⟨q1, q2⟩ | ⟨q1, q2, q3, q4⟩ <;> rcases hf1 with ⟨p1, p2⟩ | ⟨p1, p2⟩ <;> first | (simp_all [eqSigned_refl]; done) | (simp_all [eqSigned_refl]; omega)
          refine r_bin (v := .bool false) (vx := .bool ((plL l region size).2)) (vy := .bool true) rfl rfl rfl rfl (eqlB' rfl h11 rfl) ?_
          refine r_pick (v := .bool false) rfl rfl rfl ?_
          refine r_move (v := .bool false) rfl rfl rfl ?_
          refine r_skip rfl rfl ?_
          refine r_skip rfl rfl ?_
          refine r_skip rfl rfl ?_
          refine r_skip rfl rfl ?_
          refine r_skip rfl rfl ?_
          refine r_skip rfl rfl ?_
          refine r_skip rfl rfl ?_
          refine r_pick (v := .bool false) rfl rfl rfl ?_
          refine r_assign (v := .bool false) rfl rfl rfl ?_
          refine r_doneN ?_
          refine x_then ?_
          refine c_ret ?_
          refine x_end ?_
          exfalso
          rcases hl1 with ⟨q1, q2⟩ | ⟨q1, q2, q3, q4⟩ <;> rcases hf1 with ⟨p1, p2⟩ | ⟨p1, p2⟩ <;> first | (simp_all [eqSigned_refl]; done) | (simp_all [eqSigned_refl]; omega)
        refine r_bin (v := .bool false) (vx := .int .i64 fi) (vy := .int .i64 0) rfl rfl rfl rfl (geq_f (by omega)) ?_
        rcases Bool.eq_false_or_eq_true ((plL l region size).2) with h13 | h13
        · skip
          refine r_bin (v := .bool false) (vx := .bool ((plL l region size).2)) (vy := .bool false) rfl rfl rfl rfl (eqlB' rfl h13 rfl) ?_
          refine r_pick (v := .bool false) rfl rfl rfl ?_
          refine r_move (v := .bool false) rfl rfl rfl ?_
          refine r_skip rfl rfl ?_
          refine r_skip rfl rfl ?_
          refine r_skip rfl rfl ?_
          refine r_skip rfl rfl ?_
          refine r_skip rfl rfl ?_
          refine r_skip rfl rfl ?_
          refine r_skip rfl rfl ?_
          refine r_pick (v := .bool false) rfl rfl rfl ?_
          refine r_assign (v := .bool false) rfl rfl rfl ?_
          refine r_doneN ?_
          refine x_then ?_
          refine c_ret ?_
          refine x_end ?_
          exfalso
          rcases hl1 with ⟨q1, q2⟩ | ⟨q1, q2, q3, q4⟩ <;> rcases hf1 with ⟨p1, p2⟩ | ⟨p1, p2⟩ <;> first | (simp_all [eqSigned_refl]; done) | (simp_all [eqSigned_refl]; omega)
        refine r_bin (v := .bool true) (vx := .bool ((plL l region size).2)) (vy := .bool false) rfl rfl rfl rfl (eqlB' rfl h13 rfl) ?_
        refine r_pick (v := .bool true) rfl rfl rfl ?_
        refine r_move (v := .bool true) rfl rfl rfl ?_
        refine r_move (v := .bool ((plL l region size).2)) rfl rfl rfl ?_
        refine r_un (v := .bool true) (vx := .bool ((plL l region size).2)) rfl rfl rfl (Eq.trans un_not (congrArg (fun b => some (Value.bool !b)) h13)) ?_
        refine r_move (v := .bool true) rfl rfl rfl ?_
        refine r_skip rfl rfl ?_
        refine r_skip rfl rfl ?_
        refine r_skip rfl rfl ?_
        refine r_pick (v := .bool true) rfl rfl rfl ?_
        refine r_pick (v := .bool true) rfl rfl rfl ?_
        refine r_assign (v := .bool true) rfl rfl rfl ?_
        refine r_doneN ?_
        refine x_then ?_
        refine c_ret ?_
        refine x_end ?_
        exact end_map [0] (v := .bool true) rfl (by kernel_rfl) rfl rfl (by decide) (by simp [keptB, rwR, cItem]) rfl
      refine r_bin (v := .bool false) (vx := signedV (((l.getD at_.toNat default).entry).head)) (vy := signedV ((latL l region).1)) rfl rfl rfl rfl (Eq.trans (eql_Signed (((l.getD at_.toNat default).entry).head) ((latL l region).1)) (by rw [h9] <;> rfl)) ?_
      refine r_pick (v := .bool false) rfl rfl rfl ?_
      refine r_pick (v := .bool false) rfl rfl rfl ?_
      refine r_assign (v := .bool false) rfl rfl rfl ?_
      refine r_doneD (drawnT_ok [[], [], [1], [0, 1, 2], [0, 1, 2, 3], [0, 1, 2, 3, 4], [0, 1, 2, 3, 4, 5], [0, 1, 2, 3, 4, 5, 6], [0, 1, 2, 3, 4, 5, 6, 7], [0, 1, 2, 3, 4, 5, 6, 7], [0, 1, 2, 3, 4, 5, 6, 7, 8, 9], [0, 1, 2, 3, 4, 5, 6, 7, 8, 9, 10], [0, 1, 2, 3, 4, 5, 6, 7, 8, 9, 10, 11], [0, 1, 2, 3, 4, 5, 6, 7, 8, 9, 10, 11, 12], [0, 1, 2, 3, 4, 5, 6, 7], [0, 1, 2, 3, 4, 5, 6, 7, 8, 9, 10, 11, 12, 13, 14], [0, 1, 2, 3, 4, 5, 6, 7, 8, 9, 10, 11, 12, 13, 14, 15], [0, 1, 2, 3, 4, 5, 6, 7, 8, 9, 10, 11, 12, 13, 14, 15, 16], [0, 1, 2, 3, 4, 5, 6, 7, 8, 9, 10, 11, 12, 13, 14, 15, 16, 17]] (by kernel_rfl) (by kernel_rfl)) ?_
      refine x_then ?_
      refine c_seq ?_
      refine c_reg ?_
      refine r_callP (admits_ok (G := G) kk hG) (vals := []) (res' := .bool true) rfl rfl rfl rfl rfl rfl ?_
      refine r_move (v := .bool true) rfl rfl rfl ?_
      refine r_move (v := .bool false) rfl rfl rfl ?_
      refine r_pick (v := .bool false) rfl rfl rfl ?_
      refine r_move (v := .bool false) rfl rfl rfl ?_
      refine r_skip rfl rfl ?_
      refine r_skip rfl rfl ?_
      refine r_skip rfl rfl ?_
      refine r_skip rfl rfl ?_
      refine r_pick (v := .bool false) rfl rfl rfl ?_
      refine r_move (v := .bool false) rfl rfl rfl ?_
      refine r_skip rfl rfl ?_
      refine r_skip rfl rfl ?_
      refine r_skip rfl rfl ?_
      refine r_skip rfl rfl ?_
      refine r_skip rfl rfl ?_
      refine r_skip rfl rfl ?_
      refine r_skip rfl rfl ?_
      refine r_pick (v := .bool false) rfl rfl rfl ?_
      refine r_assign (v := .bool false) rfl rfl rfl ?_
      refine r_doneN ?_
      refine x_then ?_
      refine c_ret ?_
      refine x_end ?_
      exfalso
      rcases hl1 with ⟨q1, q2⟩ | ⟨q1, q2, q3, q4⟩ <;> rcases hf1 with ⟨p1, p2⟩ | ⟨p1, p2⟩ <;> first | (simp_all [eqSigned_refl]; done) | (simp_all [eqSigned_refl]; omega)
    refine r_bin (v := .bool false) (vx := .bool ((latL l region).2)) (vy := .bool true) rfl rfl rfl rfl (eqlB' rfl h8 rfl) ?_
    refine r_move (v := .bool false) rfl rfl rfl ?_
    refine r_skip rfl rfl ?_
    refine r_skip rfl rfl ?_
    refine r_skip rfl rfl ?_
    refine r_skip rfl rfl ?_
    refine r_skip rfl rfl ?_
    refine r_skip rfl rfl ?_
    refine r_skip rfl rfl ?_
    refine r_skip rfl rfl ?_
    refine r_skip rfl rfl ?_
    refine r_skip rfl rfl ?_
    refine r_skip rfl rfl ?_
    refine r_skip rfl rfl ?_
    refine r_pick (v := .bool false) rfl rfl rfl ?_
    refine r_assign (v := .bool false) rfl rfl rfl ?_
    refine r_doneD (drawnT_ok [[], [], [1], [0, 1, 2], [0, 1, 2, 3], [0, 1, 2, 3, 4], [0, 1, 2, 3, 4, 5], [0, 1, 2, 3, 4, 5, 6], [0, 1, 2, 3, 4, 5, 6, 7], [0, 1, 2, 3, 4, 5, 6, 7], [0, 1, 2, 3, 4, 5, 6, 7, 8, 9], [0, 1, 2, 3, 4, 5, 6, 7, 8, 9, 10], [0, 1, 2, 3, 4, 5, 6, 7, 8, 9, 10, 11], [0, 1, 2, 3, 4, 5, 6, 7, 8, 9, 10, 11, 12], [0, 1, 2, 3, 4, 5, 6, 7], [0, 1, 2, 3, 4, 5, 6, 7, 8, 9, 10, 11, 12, 13, 14], [0, 1, 2, 3, 4, 5, 6, 7, 8, 9, 10, 11, 12, 13, 14, 15], [0, 1, 2, 3, 4, 5, 6, 7, 8, 9, 10, 11, 12, 13, 14, 15, 16], [0, 1, 2, 3, 4, 5, 6, 7, 8, 9, 10, 11, 12, 13, 14, 15, 16, 17]] (by kernel_rfl) (by kernel_rfl)) ?_
    refine x_then ?_
    refine c_seq ?_
    refine c_reg ?_
    refine r_callP (admits_ok (G := G) kk hG) (vals := []) (res' := .bool true) rfl rfl rfl rfl rfl rfl ?_
    refine r_move (v := .bool true) rfl rfl rfl ?_
    refine r_move (v := .bool false) rfl rfl rfl ?_
    refine r_pick (v := .bool false) rfl rfl rfl ?_
    refine r_move (v := .bool false) rfl rfl rfl ?_
    refine r_skip rfl rfl ?_
    refine r_skip rfl rfl ?_
    refine r_skip rfl rfl ?_
    refine r_skip rfl rfl ?_
    refine r_pick (v := .bool false) rfl rfl rfl ?_
    refine r_move (v := .bool false) rfl rfl rfl ?_
    refine r_skip rfl rfl ?_
    refine r_skip rfl rfl ?_
    refine r_skip rfl rfl ?_
    refine r_skip rfl rfl ?_
    refine r_skip rfl rfl ?_
    refine r_skip rfl rfl ?_
    refine r_skip rfl rfl ?_
    refine r_pick (v := .bool false) rfl rfl rfl ?_
    refine r_assign (v := .bool false) rfl rfl rfl ?_
    refine r_doneN ?_
    refine x_then ?_
    refine c_ret ?_
    refine x_end ?_
    exfalso
    rcases hl1 with ⟨q1, q2⟩ | ⟨q1, q2, q3, q4⟩ <;> rcases hf1 with ⟨p1, p2⟩ | ⟨p1, p2⟩ <;> first | (simp_all [eqSigned_refl]; done) | (simp_all [eqSigned_refl]; omega)
  refine r_bin (v := .bool false) (vx := .int .i64 at_) (vy := .int .i64 0) rfl rfl rfl rfl (geq_f (by omega)) ?_
  rcases Bool.eq_false_or_eq_true ((latL l region).2) with h14 | h14
  · skip
    refine r_bin (v := .bool false) (vx := .bool ((latL l region).2)) (vy := .bool false) rfl rfl rfl rfl (eqlB' rfl h14 rfl) ?_
    refine r_move (v := .bool false) rfl rfl rfl ?_
    refine r_skip rfl rfl ?_
    refine r_skip rfl rfl ?_
    refine r_skip rfl rfl ?_
    refine r_skip rfl rfl ?_
    refine r_skip rfl rfl ?_
    refine r_skip rfl rfl ?_
    refine r_skip rfl rfl ?_
    refine r_skip rfl rfl ?_
    refine r_skip rfl rfl ?_
    refine r_skip rfl rfl ?_
    refine r_skip rfl rfl ?_
    refine r_skip rfl rfl ?_
    refine r_pick (v := .bool false) rfl rfl rfl ?_
    refine r_assign (v := .bool false) rfl rfl rfl ?_
    refine r_doneD (drawnT_ok [[], [], [1], [0, 1, 2], [0, 1, 2, 3], [0, 1, 2, 3, 4], [0, 1, 2, 3, 4, 5], [0, 1, 2, 3, 4, 5, 6], [0, 1, 2, 3, 4, 5, 6, 7], [0, 1, 2, 3, 4, 5, 6, 7], [0, 1, 2, 3, 4, 5, 6, 7, 8, 9], [0, 1, 2, 3, 4, 5, 6, 7, 8, 9, 10], [0, 1, 2, 3, 4, 5, 6, 7, 8, 9, 10, 11], [0, 1, 2, 3, 4, 5, 6, 7, 8, 9, 10, 11, 12], [0, 1, 2, 3, 4, 5, 6, 7], [0, 1, 2, 3, 4, 5, 6, 7, 8, 9, 10, 11, 12, 13, 14], [0, 1, 2, 3, 4, 5, 6, 7, 8, 9, 10, 11, 12, 13, 14, 15], [0, 1, 2, 3, 4, 5, 6, 7, 8, 9, 10, 11, 12, 13, 14, 15, 16], [0, 1, 2, 3, 4, 5, 6, 7, 8, 9, 10, 11, 12, 13, 14, 15, 16, 17]] (by kernel_rfl) (by kernel_rfl)) ?_
    refine x_then ?_
    refine c_seq ?_
    refine c_reg ?_
    refine r_callP (admits_ok (G := G) kk hG) (vals := []) (res' := .bool true) rfl rfl rfl rfl rfl rfl ?_
    refine r_move (v := .bool true) rfl rfl rfl ?_
    refine r_move (v := .bool false) rfl rfl rfl ?_
    refine r_pick (v := .bool false) rfl rfl rfl ?_
    refine r_move (v := .bool false) rfl rfl rfl ?_
    refine r_skip rfl rfl ?_
    refine r_skip rfl rfl ?_
    refine r_skip rfl rfl ?_
    refine r_skip rfl rfl ?_
    refine r_pick (v := .bool false) rfl rfl rfl ?_
    refine r_move (v := .bool false) rfl rfl rfl ?_
    refine r_skip rfl rfl ?_
    refine r_skip rfl rfl ?_
    refine r_skip rfl rfl ?_
    refine r_skip rfl rfl ?_
    refine r_skip rfl rfl ?_
    refine r_skip rfl rfl ?_
    refine r_skip rfl rfl ?_
    refine r_pick (v := .bool false) rfl rfl rfl ?_
    refine r_assign (v := .bool false) rfl rfl rfl ?_
    refine r_doneN ?_
    refine x_then ?_
    refine c_ret ?_
    refine x_end ?_
    exfalso
    rcases hl1 with ⟨q1, q2⟩ | ⟨q1, q2, q3, q4⟩ <;> rcases hf1 with ⟨p1, p2⟩ | ⟨p1, p2⟩ <;> first | (simp_all [eqSigned_refl]; done) | (simp_all [eqSigned_refl]; omega)
  refine r_bin (v := .bool true) (vx := .bool ((latL l region).2)) (vy := .bool false) rfl rfl rfl rfl (eqlB' rfl h14 rfl) ?_
  refine r_move (v := .bool true) rfl rfl rfl ?_
  refine r_move (v := .bool ((latL l region).2)) rfl rfl rfl ?_
  refine r_un (v := .bool true) (vx := .bool ((latL l region).2)) rfl rfl rfl (Eq.trans un_not (congrArg (fun b => some (Value.bool !b)) h14)) ?_
  refine r_move (v := .bool true) rfl rfl rfl ?_
  refine r_skip rfl rfl ?_
  refine r_skip rfl rfl ?_
  refine r_skip rfl rfl ?_
  refine r_skip rfl rfl ?_
  refine r_skip rfl rfl ?_
  refine r_skip rfl rfl ?_
  refine r_skip rfl rfl ?_
  refine r_skip rfl rfl ?_
  refine r_pick (v := .bool true) rfl rfl rfl ?_
  refine r_pick (v := .bool true) rfl rfl rfl ?_
  refine r_assign (v := .bool true) rfl rfl rfl ?_
  refine r_doneD (drawnT_ok [[], [], [1], [0, 1, 2], [0, 1, 2, 3], [0, 1, 2, 3, 4], [0, 1, 2, 3, 4, 5], [0, 1, 2, 3, 4, 5, 6], [0, 1, 2, 3, 4, 5, 6, 7], [0, 1, 2, 3, 4, 5, 6, 7], [0, 1, 2, 3, 4, 5, 6, 7, 8, 9], [0, 1, 2, 3, 4, 5, 6, 7, 8, 9, 10], [0, 1, 2, 3, 4, 5, 6, 7, 8, 9, 10, 11], [0, 1, 2, 3, 4, 5, 6, 7, 8, 9, 10, 11, 12], [0, 1, 2, 3, 4, 5, 6, 7], [0, 1, 2, 3, 4, 5, 6, 7, 8, 9, 10, 11, 12, 13, 14], [0, 1, 2, 3, 4, 5, 6, 7, 8, 9, 10, 11, 12, 13, 14, 15], [0, 1, 2, 3, 4, 5, 6, 7, 8, 9, 10, 11, 12, 13, 14, 15, 16], [0, 1, 2, 3, 4, 5, 6, 7, 8, 9, 10, 11, 12, 13, 14, 15, 16, 17]] (by kernel_rfl) (by kernel_rfl)) ?_
  refine x_then ?_
  refine c_seq ?_
  refine c_reg ?_
  refine r_callP (admits_ok (G := G) kk hG) (vals := []) (res' := .bool true) rfl rfl rfl rfl rfl rfl ?_
  refine r_move (v := .bool true) rfl rfl rfl ?_
  refine r_move (v := .bool true) rfl rfl rfl ?_
  refine r_pick (v := .bool true) rfl rfl rfl ?_
  refine r_move (v := .bool true) rfl rfl rfl ?_
  refine r_move (v := .bool ((plL l region size).2)) rfl rfl rfl ?_
  refine r_move (v := .int .i64 fi) rfl rfl rfl ?_
  by_cases h15 : 0 ≤ fi
  · skip
    refine r_bin (v := .bool true) (vx := .int .i64 fi) (vy := .int .i64 0) rfl rfl rfl rfl (geq_t (by omega)) ?_
    rcases Bool.eq_false_or_eq_true ((plL l region size).2) with h16 | h16
    · skip
      refine r_bin (v := .bool true) (vx := .bool ((plL l region size).2)) (vy := .bool true) rfl rfl rfl rfl (eqlB' rfl h16 rfl) ?_
      refine r_pick (v := .bool true) rfl rfl rfl ?_
      refine r_move (v := .bool true) rfl rfl rfl ?_
      refine r_move (v := .bool ((plL l region size).2)) rfl rfl rfl ?_
      refine r_un (v := .bool false) (vx := .bool ((plL l region size).2)) rfl rfl rfl (Eq.trans un_not (congrArg (fun b => some (Value.bool !b)) h16)) ?_
      refine r_move (v := .bool false) rfl rfl rfl ?_
      refine r_move (v := .int .i64 (((plL l region size).1))) rfl rfl rfl ?_
      refine r_move (v := .int .i64 fi) rfl rfl rfl ?_
      by_cases h17 : (((plL l region size).1)) = fi
      · skip
        refine r_bin (v := .bool true) (vx := .int .i64 (((plL l region size).1))) (vy := .int .i64 fi) rfl rfl rfl rfl (eql_t (by omega)) ?_
        refine r_pick (v := .bool true) rfl rfl rfl ?_
        refine r_pick (v := .bool true) rfl rfl rfl ?_
        refine r_assign (v := .bool true) rfl rfl rfl ?_
        refine r_doneN ?_
        refine x_then ?_
        refine c_ret ?_
        refine x_end ?_
        exact end_map [0] (v := .bool true) rfl (by kernel_rfl) rfl rfl (by decide) (by simp [keptB, rwR, cItem]) rfl
      refine r_bin (v := .bool false) (vx := .int .i64 (((plL l region size).1))) (vy := .int .i64 fi) rfl rfl rfl rfl (eql_f (by omega)) ?_
      refine r_pick (v := .bool false) rfl rfl rfl ?_
      refine r_pick (v := .bool false) rfl rfl rfl ?_
      refine r_assign (v := .bool false) rfl rfl rfl ?_
      refine r_doneN ?_
      refine x_then ?_
      refine c_ret ?_
      refine x_end ?_
      exfalso
      rcases hl1 with ⟨q1, q2⟩ | ⟨q1, q2, q3, q4⟩ <;> rcases hf1 with ⟨p1, p2⟩ | ⟨p1, p2⟩ <;> first | (simp_all [eqSigned_refl]; done) | (simp_all [eqSigned_refl]; omega)
    refine r_bin (v := .bool false) (vx := .bool ((plL l region size).2)) (vy := .bool true) rfl rfl rfl rfl (eqlB' rfl h16 rfl) ?_
    refine r_pick (v := .bool false) rfl rfl rfl ?_
    refine r_move (v := .bool false) rfl rfl rfl ?_
    refine r_skip rfl rfl ?_
    refine r_skip rfl rfl ?_
    refine r_skip rfl rfl ?_
    refine r_skip rfl rfl ?_
    refine r_skip rfl rfl ?_
    refine r_skip rfl rfl ?_
    refine r_skip rfl rfl ?_
    refine r_pick (v := .bool false) rfl rfl rfl ?_
    refine r_assign (v := .bool false) rfl rfl rfl ?_
    refine r_doneN ?_
    refine x_then ?_
    refine c_ret ?_
    refine x_end ?_
    exfalso
    rcases hl1 with ⟨q1, q2⟩ | ⟨q1, q2, q3, q4⟩ <;> rcases hf1 with ⟨p1, p2⟩ | ⟨p1, p2⟩ <;> first | (simp_all [eqSigned_refl]; done) | (simp_all [eqSigned_refl]; omega)
  refine r_bin (v := .bool false) (vx := .int .i64 fi) (vy := .int .i64 0) rfl rfl rfl rfl (geq_f (by omega)) ?_
  rcases Bool.eq_false_or_eq_true ((plL l region size).2) with h18 | h18
  · skip
    refine r_bin (v := .bool false) (vx := .bool ((plL l region size).2)) (vy := .bool false) rfl rfl rfl rfl (eqlB' rfl h18 rfl) ?_
    refine r_pick (v := .bool false) rfl rfl rfl ?_
    refine r_move (v := .bool false) rfl rfl rfl ?_
    refine r_skip rfl rfl ?_
    refine r_skip rfl rfl ?_
    refine r_skip rfl rfl ?_
    refine r_skip rfl rfl ?_
    refine r_skip rfl rfl ?_
    refine r_skip rfl rfl ?_
    refine r_skip rfl rfl ?_
    refine r_pick (v := .bool false) rfl rfl rfl ?_
    refine r_assign (v := .bool false) rfl rfl rfl ?_
    refine r_doneN ?_
    refine x_then ?_
    refine c_ret ?_
    refine x_end ?_
    exfalso
    rcases hl1 with ⟨q1, q2⟩ | ⟨q1, q2, q3, q4⟩ <;> rcases hf1 with ⟨p1, p2⟩ | ⟨p1, p2⟩ <;> first | (simp_all [eqSigned_refl]; done) | (simp_all [eqSigned_refl]; omega)
  refine r_bin (v := .bool true) (vx := .bool ((plL l region size).2)) (vy := .bool false) rfl rfl rfl rfl (eqlB' rfl h18 rfl) ?_
  refine r_pick (v := .bool true) rfl rfl rfl ?_
  refine r_move (v := .bool true) rfl rfl rfl ?_
  refine r_move (v := .bool ((plL l region size).2)) rfl rfl rfl ?_
  refine r_un (v := .bool true) (vx := .bool ((plL l region size).2)) rfl rfl rfl (Eq.trans un_not (congrArg (fun b => some (Value.bool !b)) h18)) ?_
  refine r_move (v := .bool true) rfl rfl rfl ?_
  refine r_skip rfl rfl ?_
  refine r_skip rfl rfl ?_
  refine r_skip rfl rfl ?_
  refine r_pick (v := .bool true) rfl rfl rfl ?_
  refine r_pick (v := .bool true) rfl rfl rfl ?_
  refine r_assign (v := .bool true) rfl rfl rfl ?_
  refine r_doneN ?_
  refine x_then ?_
  refine c_ret ?_
  refine x_end ?_
  exact end_map [0] (v := .bool true) rfl (by kernel_rfl) rfl rfl (by decide) (by simp [keptB, rwR, cItem]) rfl
end Go.Flat
