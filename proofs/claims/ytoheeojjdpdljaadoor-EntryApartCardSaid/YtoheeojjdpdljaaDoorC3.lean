/- Walks and plain laws: what each theorem says, within the bounds that it names. -/
import Derived.Test.YtoheeojjdpdljaaDoorC2
import Derived.Test.YtoheeojjdpdljaaDoorP2
set_option linter.unusedVariables false
set_option linter.unusedSimpArgs false
set_option maxRecDepth 20000
namespace Go.Flat
open Go.Proofs
variable {G : Glob}
theorem readF_sz (l : Bs) (i : Nat) (hi : i < (readF l).1.length) : ((readF l).1.getD i default).data.size ≤ l.length := by
  rw [List.getD_eq_getElem?_getD, List.getElem?_eq_getElem hi]
  exact readL_size l.length (l.length + 1) l 0 [] (Nat.le_refl _) (by simp) _ (List.getElem_mem hi)
theorem gotC_same {l : Bs} (h : (gotC l).2 = 0) : (putC (gotC l).1).1 = l ∧ (putC (gotC l).1).2 = 0 := by
  unfold gotC at h ⊢
  split at h
  · rename_i q
    rw [if_pos q]
    exact ⟨strOf_inj ((sameT_iff _ _).1 q.2.2), q.2.1⟩
  · exact absurd h (by decide)
def takeE (x : Entry) (f : Field) : Entry :=
  if f.tag = 1 then ⟨(valS f.data).1, x.client, x.seq, x.text, x.head, x.claim⟩ else
  if f.tag = 2 then ⟨x.kind, (valS f.data).1, x.seq, x.text, x.head, x.claim⟩ else
  if f.tag = 3 then ⟨x.kind, x.client, (valS f.data).1, x.text, x.head, x.claim⟩ else
  if f.tag = 4 then ⟨x.kind, x.client, x.seq, f.data, x.head, x.claim⟩ else
  if f.tag = 5 then ⟨x.kind, x.client, x.seq, x.text, (getS (bl f.data)).1, x.claim⟩ else
  if f.tag = 6 then ⟨x.kind, x.client, x.seq, x.text, x.head, (gotC (bl f.data)).1⟩ else x
def takeEL : List Field → Entry → Entry
  | [], x => x
  | f :: fs, x => takeEL fs (takeE x f)
theorem takeEL_step {fs : List Field} {i : Nat} {x R : Entry} (hR : takeEL (fs.drop i) x = R) (hi : i < fs.length) : takeEL (fs.drop (i + 1)) (takeE x (fs.getD i default)) = R := by
  rw [dropF_gd fs i hi] at hR; exact hR
def gotE (l : Bs) : Entry × Int := if (readF l).2 = 0 ∧ (putE (takeEL (readF l).1 ⟨0, 0, 0, ⟨#[]⟩, ⟨⟨0, 0, 0, dz, 0⟩, 0, dz⟩, ⟨0, 0, 0, 0, dz⟩⟩)).2 = 0 ∧ sameT (strOf (putE (takeEL (readF l).1 ⟨0, 0, 0, ⟨#[]⟩, ⟨⟨0, 0, 0, dz, 0⟩, 0, dz⟩, ⟨0, 0, 0, 0, dz⟩⟩)).1) (strOf l) = true then (takeEL (readF l).1 ⟨0, 0, 0, ⟨#[]⟩, ⟨⟨0, 0, 0, dz, 0⟩, 0, dz⟩, ⟨0, 0, 0, 0, dz⟩⟩, 0) else (⟨0, 0, 0, ⟨#[]⟩, ⟨⟨0, 0, 0, dz, 0⟩, 0, dz⟩, ⟨0, 0, 0, 0, dz⟩⟩, 60)
theorem gotE_same {l : Bs} (h : (gotE l).2 = 0) : (putE (gotE l).1).1 = l ∧ (putE (gotE l).1).2 = 0 := by
  unfold gotE at h ⊢
  split at h
  · rename_i q
    rw [if_pos q]
    exact ⟨strOf_inj ((sameT_iff _ _).1 q.2.2), q.2.1⟩
  · exact absurd h (by decide)
def takeI (x : Item) (f : Field) : Item :=
  if f.tag = 1 then ⟨(valS f.data).1, x.entry⟩ else
  if f.tag = 2 then ⟨x.epoch, (gotE (bl f.data)).1⟩ else x
def takeIL : List Field → Item → Item
  | [], x => x
  | f :: fs, x => takeIL fs (takeI x f)
theorem takeIL_step {fs : List Field} {i : Nat} {x R : Item} (hR : takeIL (fs.drop i) x = R) (hi : i < fs.length) : takeIL (fs.drop (i + 1)) (takeI x (fs.getD i default)) = R := by
  rw [dropF_gd fs i hi] at hR; exact hR
def gotI (l : Bs) : Item × Int := if (readF l).2 = 0 ∧ (putI (takeIL (readF l).1 ⟨0, ⟨0, 0, 0, ⟨#[]⟩, ⟨⟨0, 0, 0, dz, 0⟩, 0, dz⟩, ⟨0, 0, 0, 0, dz⟩⟩⟩)).2 = 0 ∧ sameT (strOf (putI (takeIL (readF l).1 ⟨0, ⟨0, 0, 0, ⟨#[]⟩, ⟨⟨0, 0, 0, dz, 0⟩, 0, dz⟩, ⟨0, 0, 0, 0, dz⟩⟩⟩)).1) (strOf l) = true then (takeIL (readF l).1 ⟨0, ⟨0, 0, 0, ⟨#[]⟩, ⟨⟨0, 0, 0, dz, 0⟩, 0, dz⟩, ⟨0, 0, 0, 0, dz⟩⟩⟩, 0) else (⟨0, ⟨0, 0, 0, ⟨#[]⟩, ⟨⟨0, 0, 0, dz, 0⟩, 0, dz⟩, ⟨0, 0, 0, 0, dz⟩⟩⟩, 60)
theorem GetClaim_n (l : Bs) (n c : Nat) (hn : l.length = n) (hc : n ≤ c) (hb : n ≤ 1048576) : CallL Tryd.prog G 20 [slv 0 0 n c] [rdB l] (.tuple #[claimV (gotC l).1, .int .i64 (gotC l).2]) [rdB l] := by
  subst hn; exact GetClaim_ok (G := G) l c hc hb
theorem takeE_ok (x : Entry) (f : Field) (hs : f.data.size ≤ 1048576) : CallL Tryd.prog G 39 [pt 0 0, fdV f] [bxB 109 (entC x)] (.tuple #[]) [bxB 109 (entC (takeE x f))] := by
  refine walk (fn := Tryd.f39) (nt := 61) rfl rfl rfl rfl ?_
  refine c_hole 2 (H' := [bxB 109 (entC x), hole, hole]) rfl ?_
  refine c_seq (c_reg ?_)
  refine r_box (v := fdV f) (b := bxB 2 (fdC f)) (nid := 1) (H' := [bxB 109 (entC x), bxB 2 (fdC f), hole]) rfl rfl rfl (by kernel_rfl) (by kernel_rfl) ?_
  refine r_doneN (x_then (c_seq (c_reg ?_)))
  refine r_fieldAddr (b := 1) (o := 0) (n := 0) (o' := 0) rfl rfl rfl rfl rfl ?_
  refine r_load (p := pt 1 0) (v := .int .i64 f.tag) rfl rfl rfl (by kernel_rfl) ?_
  refine r_doneN (x_then (c_block (c_seq (c_reg ?_))))
  by_cases h1 : f.tag = 1
  refine r_bin (v := .bool true) (vx := .int .i64 f.tag) (vy := .int .i64 1) rfl rfl rfl rfl (eql_t (by omega)) ?_
  refine r_assign (v := .bool true) rfl rfl rfl ?_
  refine r_doneN (x_then (c_true rfl (c_reg ?_)))
  refine r_move (v := pt 0 0) rfl rfl rfl ?_
  refine r_fieldAddr (b := 1) (o := 0) (n := 1) (o' := 1) rfl rfl rfl rfl rfl ?_
  refine r_load (p := pt 1 1) (v := .string f.data) rfl rfl rfl (by kernel_rfl) ?_
  refine r_callP (enumber_ok (G := G) f.data) (vals := [.string f.data]) (res' := .int .i64 (((valS f.data).1))) rfl rfl rfl rfl rfl rfl ?_
  refine r_nilCheck (p := pt 0 0) (v := pt 0 0) rfl rfl rfl rfl ?_
  refine r_fieldAddr (b := 0) (o := 0) (n := 0) (o' := 0) rfl rfl rfl rfl rfl ?_
  refine r_store (p := pt 0 0) (v := .int .i64 (((valS f.data).1))) (b := 0) (blk := bxB 109 (entC (⟨(((valS f.data).1)), x.client, x.seq, x.text, x.head, x.claim⟩ : Entry))) (H' := [bxB 109 (entC (⟨(((valS f.data).1)), x.client, x.seq, x.text, x.head, x.claim⟩ : Entry)), bxB 2 (fdC f), hole]) rfl rfl rfl (by kernel_rfl) (by kernel_rfl) ?_
  refine r_doneN (x_blockN (x_endN ?_))
  rw [show takeE x f = (⟨(((valS f.data).1)), x.client, x.seq, x.text, x.head, x.claim⟩ : Entry) from by unfold takeE; first | (rw [if_pos (by omega)]) | (rw [if_neg (by omega), if_pos (by omega)]) | (rw [if_neg (by omega), if_neg (by omega), if_pos (by omega)]) | (rw [if_neg (by omega), if_neg (by omega), if_neg (by omega), if_pos (by omega)]) | (rw [if_neg (by omega), if_neg (by omega), if_neg (by omega), if_neg (by omega), if_pos (by omega)]) | (rw [if_neg (by omega), if_neg (by omega), if_neg (by omega), if_neg (by omega), if_neg (by omega), if_pos (by omega)]) | (rw [if_neg (by omega), if_neg (by omega), if_neg (by omega), if_neg (by omega), if_neg (by omega), if_neg (by omega)])]
  exact end_same (v := .tuple #[]) rfl rfl rfl (by simp [keptB, bxB, okId, okId0]) trivial
  refine r_bin (v := .bool false) (vx := .int .i64 f.tag) (vy := .int .i64 1) rfl rfl rfl rfl (eql_f (by omega)) ?_
  refine r_assign (v := .bool false) rfl rfl rfl ?_
  refine r_doneN (x_then (c_false rfl (c_seq (c_reg ?_))))
  by_cases h2 : f.tag = 2
  refine r_bin (v := .bool true) (vx := .int .i64 f.tag) (vy := .int .i64 2) rfl rfl rfl rfl (eql_t (by omega)) ?_
  refine r_assign (v := .bool true) rfl rfl rfl ?_
  refine r_doneN (x_then (c_true rfl (c_reg ?_)))
  refine r_move (v := pt 0 0) rfl rfl rfl ?_
  refine r_fieldAddr (b := 1) (o := 0) (n := 1) (o' := 1) rfl rfl rfl rfl rfl ?_
  refine r_load (p := pt 1 1) (v := .string f.data) rfl rfl rfl (by kernel_rfl) ?_
  refine r_callP (enumber_ok (G := G) f.data) (vals := [.string f.data]) (res' := .int .i64 (((valS f.data).1))) rfl rfl rfl rfl rfl rfl ?_
  refine r_nilCheck (p := pt 0 0) (v := pt 0 0) rfl rfl rfl rfl ?_
  refine r_fieldAddr (b := 0) (o := 0) (n := 1) (o' := 1) rfl rfl rfl rfl rfl ?_
  refine r_store (p := pt 0 1) (v := .int .i64 (((valS f.data).1))) (b := 0) (blk := bxB 109 (entC (⟨x.kind, (((valS f.data).1)), x.seq, x.text, x.head, x.claim⟩ : Entry))) (H' := [bxB 109 (entC (⟨x.kind, (((valS f.data).1)), x.seq, x.text, x.head, x.claim⟩ : Entry)), bxB 2 (fdC f), hole]) rfl rfl rfl (by kernel_rfl) (by kernel_rfl) ?_
  refine r_doneN (x_blockN (x_endN ?_))
  rw [show takeE x f = (⟨x.kind, (((valS f.data).1)), x.seq, x.text, x.head, x.claim⟩ : Entry) from by unfold takeE; first | (rw [if_pos (by omega)]) | (rw [if_neg (by omega), if_pos (by omega)]) | (rw [if_neg (by omega), if_neg (by omega), if_pos (by omega)]) | (rw [if_neg (by omega), if_neg (by omega), if_neg (by omega), if_pos (by omega)]) | (rw [if_neg (by omega), if_neg (by omega), if_neg (by omega), if_neg (by omega), if_pos (by omega)]) | (rw [if_neg (by omega), if_neg (by omega), if_neg (by omega), if_neg (by omega), if_neg (by omega), if_pos (by omega)]) | (rw [if_neg (by omega), if_neg (by omega), if_neg (by omega), if_neg (by omega), if_neg (by omega), if_neg (by omega)])]
  exact end_same (v := .tuple #[]) rfl rfl rfl (by simp [keptB, bxB, okId, okId0]) trivial
  refine r_bin (v := .bool false) (vx := .int .i64 f.tag) (vy := .int .i64 2) rfl rfl rfl rfl (eql_f (by omega)) ?_
  refine r_assign (v := .bool false) rfl rfl rfl ?_
  refine r_doneN (x_then (c_false rfl (c_seq (c_reg ?_))))
  by_cases h3 : f.tag = 3
  refine r_bin (v := .bool true) (vx := .int .i64 f.tag) (vy := .int .i64 3) rfl rfl rfl rfl (eql_t (by omega)) ?_
  refine r_assign (v := .bool true) rfl rfl rfl ?_
  refine r_doneN (x_then (c_true rfl (c_reg ?_)))
  refine r_move (v := pt 0 0) rfl rfl rfl ?_
  refine r_fieldAddr (b := 1) (o := 0) (n := 1) (o' := 1) rfl rfl rfl rfl rfl ?_
  refine r_load (p := pt 1 1) (v := .string f.data) rfl rfl rfl (by kernel_rfl) ?_
  refine r_callP (enumber_ok (G := G) f.data) (vals := [.string f.data]) (res' := .int .i64 (((valS f.data).1))) rfl rfl rfl rfl rfl rfl ?_
  refine r_nilCheck (p := pt 0 0) (v := pt 0 0) rfl rfl rfl rfl ?_
  refine r_fieldAddr (b := 0) (o := 0) (n := 2) (o' := 2) rfl rfl rfl rfl rfl ?_
  refine r_store (p := pt 0 2) (v := .int .i64 (((valS f.data).1))) (b := 0) (blk := bxB 109 (entC (⟨x.kind, x.client, (((valS f.data).1)), x.text, x.head, x.claim⟩ : Entry))) (H' := [bxB 109 (entC (⟨x.kind, x.client, (((valS f.data).1)), x.text, x.head, x.claim⟩ : Entry)), bxB 2 (fdC f), hole]) rfl rfl rfl (by kernel_rfl) (by kernel_rfl) ?_
  refine r_doneN (x_blockN (x_endN ?_))
  rw [show takeE x f = (⟨x.kind, x.client, (((valS f.data).1)), x.text, x.head, x.claim⟩ : Entry) from by unfold takeE; first | (rw [if_pos (by omega)]) | (rw [if_neg (by omega), if_pos (by omega)]) | (rw [if_neg (by omega), if_neg (by omega), if_pos (by omega)]) | (rw [if_neg (by omega), if_neg (by omega), if_neg (by omega), if_pos (by omega)]) | (rw [if_neg (by omega), if_neg (by omega), if_neg (by omega), if_neg (by omega), if_pos (by omega)]) | (rw [if_neg (by omega), if_neg (by omega), if_neg (by omega), if_neg (by omega), if_neg (by omega), if_pos (by omega)]) | (rw [if_neg (by omega), if_neg (by omega), if_neg (by omega), if_neg (by omega), if_neg (by omega), if_neg (by omega)])]
  exact end_same (v := .tuple #[]) rfl rfl rfl (by simp [keptB, bxB, okId, okId0]) trivial
  refine r_bin (v := .bool false) (vx := .int .i64 f.tag) (vy := .int .i64 3) rfl rfl rfl rfl (eql_f (by omega)) ?_
  refine r_assign (v := .bool false) rfl rfl rfl ?_
  refine r_doneN (x_then (c_false rfl (c_seq (c_reg ?_))))
  by_cases h4 : f.tag = 4
  refine r_bin (v := .bool true) (vx := .int .i64 f.tag) (vy := .int .i64 4) rfl rfl rfl rfl (eql_t (by omega)) ?_
  refine r_assign (v := .bool true) rfl rfl rfl ?_
  refine r_doneN (x_then (c_true rfl (c_reg ?_)))
  refine r_move (v := pt 0 0) rfl rfl rfl ?_
  refine r_fieldAddr (b := 1) (o := 0) (n := 1) (o' := 1) rfl rfl rfl rfl rfl ?_
  refine r_load (p := pt 1 1) (v := .string f.data) rfl rfl rfl (by kernel_rfl) ?_
  refine r_nilCheck (p := pt 0 0) (v := pt 0 0) rfl rfl rfl rfl ?_
  refine r_fieldAddr (b := 0) (o := 0) (n := 3) (o' := 3) rfl rfl rfl rfl rfl ?_
  refine r_store (p := pt 0 3) (v := .string f.data) (b := 0) (blk := bxB 109 (entC (⟨x.kind, x.client, x.seq, f.data, x.head, x.claim⟩ : Entry))) (H' := [bxB 109 (entC (⟨x.kind, x.client, x.seq, f.data, x.head, x.claim⟩ : Entry)), bxB 2 (fdC f), hole]) rfl rfl rfl (by kernel_rfl) (by kernel_rfl) ?_
  refine r_doneN (x_blockN (x_endN ?_))
  rw [show takeE x f = (⟨x.kind, x.client, x.seq, f.data, x.head, x.claim⟩ : Entry) from by unfold takeE; first | (rw [if_pos (by omega)]) | (rw [if_neg (by omega), if_pos (by omega)]) | (rw [if_neg (by omega), if_neg (by omega), if_pos (by omega)]) | (rw [if_neg (by omega), if_neg (by omega), if_neg (by omega), if_pos (by omega)]) | (rw [if_neg (by omega), if_neg (by omega), if_neg (by omega), if_neg (by omega), if_pos (by omega)]) | (rw [if_neg (by omega), if_neg (by omega), if_neg (by omega), if_neg (by omega), if_neg (by omega), if_pos (by omega)]) | (rw [if_neg (by omega), if_neg (by omega), if_neg (by omega), if_neg (by omega), if_neg (by omega), if_neg (by omega)])]
  exact end_same (v := .tuple #[]) rfl rfl rfl (by simp [keptB, bxB, okId, okId0]) trivial
  refine r_bin (v := .bool false) (vx := .int .i64 f.tag) (vy := .int .i64 4) rfl rfl rfl rfl (eql_f (by omega)) ?_
  refine r_assign (v := .bool false) rfl rfl rfl ?_
  refine r_doneN (x_then (c_false rfl (c_seq (c_reg ?_))))
  by_cases h5 : f.tag = 5
  refine r_bin (v := .bool true) (vx := .int .i64 f.tag) (vy := .int .i64 5) rfl rfl rfl rfl (eql_t (by omega)) ?_
  refine r_assign (v := .bool true) rfl rfl rfl ?_
  refine r_doneN (x_then (c_true rfl (c_reg ?_)))
  refine r_move (v := pt 0 0) rfl rfl rfl ?_
  refine r_fieldAddr (b := 1) (o := 0) (n := 1) (o' := 1) rfl rfl rfl rfl rfl ?_
  refine r_load (p := pt 1 1) (v := .string f.data) rfl rfl rfl (by kernel_rfl) ?_
  refine r_toBytes (p := .string f.data) (v := slv 2 0 f.data.size f.data.size) (blk := rowB (bl f.data)) (nid := 2) (H' := [bxB 109 (entC x), bxB 2 (fdC f), rowB (bl f.data)]) rfl rfl rfl (bytes_of rfl rfl rfl) (by kernel_rfl) ?_
  refine r_callN (e := [some (2, 0)]) (nid := 0) (HGetSigned_ok (G := G) (bl f.data) f.data.size f.data.size (bl_len f.data) (by omega) (by omega) (by rw [bl_len]; omega)) (vals := [slv 2 0 f.data.size f.data.size]) (v := .tuple #[signedV ((getS (bl f.data)).1), .int .i64 (((getS (bl f.data)).2))]) (H' := [bxB 109 (entC x), bxB 2 (fdC f), rowB (bl f.data)]) rfl rfl rfl rfl rfl rfl rfl ⟨⟨⟨rfl, rfl, rfl, by first | omega | exact Nat.le_refl _, by first | omega | exact Nat.le_refl _⟩, trivial⟩, ⟨(emb_rdW rfl), trivial⟩, rfl, rfl, rfl⟩ (by kernel_rfl) (by kernel_rfl) ?_
  refine r_move (v := .tuple #[signedV ((getS (bl f.data)).1), .int .i64 (((getS (bl f.data)).2))]) rfl rfl rfl ?_
  refine r_extract (vs := #[signedV ((getS (bl f.data)).1), .int .i64 (((getS (bl f.data)).2))]) (v := signedV ((getS (bl f.data)).1)) rfl rfl rfl rfl ?_
  refine r_extract (vs := #[signedV ((getS (bl f.data)).1), .int .i64 (((getS (bl f.data)).2))]) (v := .int .i64 (((getS (bl f.data)).2))) rfl rfl rfl rfl ?_
  refine r_nilCheck (p := pt 0 0) (v := pt 0 0) rfl rfl rfl rfl ?_
  refine r_fieldAddr (b := 0) (o := 0) (n := 4) (o' := 4) rfl rfl rfl rfl rfl ?_
  refine r_store (p := pt 0 4) (v := signedV ((getS (bl f.data)).1)) (b := 0) (blk := bxB 109 (entC (⟨x.kind, x.client, x.seq, x.text, (getS (bl f.data)).1, x.claim⟩ : Entry))) (H' := [bxB 109 (entC (⟨x.kind, x.client, x.seq, x.text, (getS (bl f.data)).1, x.claim⟩ : Entry)), bxB 2 (fdC f), rowB (bl f.data)]) rfl rfl rfl (by kernel_rfl) (by kernel_rfl) ?_
  refine r_doneN (x_blockN (x_endN ?_))
  rw [show takeE x f = (⟨x.kind, x.client, x.seq, x.text, (getS (bl f.data)).1, x.claim⟩ : Entry) from by unfold takeE; first | (rw [if_pos (by omega)]) | (rw [if_neg (by omega), if_pos (by omega)]) | (rw [if_neg (by omega), if_neg (by omega), if_pos (by omega)]) | (rw [if_neg (by omega), if_neg (by omega), if_neg (by omega), if_pos (by omega)]) | (rw [if_neg (by omega), if_neg (by omega), if_neg (by omega), if_neg (by omega), if_pos (by omega)]) | (rw [if_neg (by omega), if_neg (by omega), if_neg (by omega), if_neg (by omega), if_neg (by omega), if_pos (by omega)]) | (rw [if_neg (by omega), if_neg (by omega), if_neg (by omega), if_neg (by omega), if_neg (by omega), if_neg (by omega)])]
  exact end_same (v := .tuple #[]) rfl rfl rfl (by simp [keptB, bxB, okId, okId0]) trivial
  refine r_bin (v := .bool false) (vx := .int .i64 f.tag) (vy := .int .i64 5) rfl rfl rfl rfl (eql_f (by omega)) ?_
  refine r_assign (v := .bool false) rfl rfl rfl ?_
  refine r_doneN (x_then (c_false rfl (c_seq (c_reg ?_))))
  by_cases h6 : f.tag = 6
  refine r_bin (v := .bool true) (vx := .int .i64 f.tag) (vy := .int .i64 6) rfl rfl rfl rfl (eql_t (by omega)) ?_
  refine r_assign (v := .bool true) rfl rfl rfl ?_
  refine r_doneN (x_then (c_true rfl (c_reg ?_)))
  refine r_move (v := pt 0 0) rfl rfl rfl ?_
  refine r_fieldAddr (b := 1) (o := 0) (n := 1) (o' := 1) rfl rfl rfl rfl rfl ?_
  refine r_load (p := pt 1 1) (v := .string f.data) rfl rfl rfl (by kernel_rfl) ?_
  refine r_toBytes (p := .string f.data) (v := slv 2 0 f.data.size f.data.size) (blk := rowB (bl f.data)) (nid := 2) (H' := [bxB 109 (entC x), bxB 2 (fdC f), rowB (bl f.data)]) rfl rfl rfl (bytes_of rfl rfl rfl) (by kernel_rfl) ?_
  have hbl2 := bl_len f.data
  refine r_callN (e := [some (2, 0)]) (nid := 0) (GetClaim_n (G := G) (bl f.data) f.data.size f.data.size (bl_len f.data) (by omega) (by omega)) (vals := [slv 2 0 f.data.size f.data.size]) (v := .tuple #[claimV ((gotC (bl f.data)).1), .int .i64 (((gotC (bl f.data)).2))]) (H' := [bxB 109 (entC x), bxB 2 (fdC f), rowB (bl f.data)]) rfl rfl rfl rfl rfl rfl rfl ⟨⟨⟨rfl, rfl, rfl, by first | omega | exact Nat.le_refl _, by first | omega | exact Nat.le_refl _⟩, trivial⟩, ⟨(emb_rdW rfl), trivial⟩, rfl, rfl, rfl⟩ (by kernel_rfl) (by kernel_rfl) ?_
  refine r_move (v := .tuple #[claimV ((gotC (bl f.data)).1), .int .i64 (((gotC (bl f.data)).2))]) rfl rfl rfl ?_
  refine r_extract (vs := #[claimV ((gotC (bl f.data)).1), .int .i64 (((gotC (bl f.data)).2))]) (v := claimV ((gotC (bl f.data)).1)) rfl rfl rfl rfl ?_
  refine r_extract (vs := #[claimV ((gotC (bl f.data)).1), .int .i64 (((gotC (bl f.data)).2))]) (v := .int .i64 (((gotC (bl f.data)).2))) rfl rfl rfl rfl ?_
  refine r_nilCheck (p := pt 0 0) (v := pt 0 0) rfl rfl rfl rfl ?_
  refine r_fieldAddr (b := 0) (o := 0) (n := 73) (o' := 73) rfl rfl rfl rfl rfl ?_
  refine r_store (p := pt 0 73) (v := claimV ((gotC (bl f.data)).1)) (b := 0) (blk := bxB 109 (entC (⟨x.kind, x.client, x.seq, x.text, x.head, (gotC (bl f.data)).1⟩ : Entry))) (H' := [bxB 109 (entC (⟨x.kind, x.client, x.seq, x.text, x.head, (gotC (bl f.data)).1⟩ : Entry)), bxB 2 (fdC f), rowB (bl f.data)]) rfl rfl rfl (by kernel_rfl) (by kernel_rfl) ?_
  refine r_doneN (x_blockN (x_endN ?_))
  rw [show takeE x f = (⟨x.kind, x.client, x.seq, x.text, x.head, (gotC (bl f.data)).1⟩ : Entry) from by unfold takeE; first | (rw [if_pos (by omega)]) | (rw [if_neg (by omega), if_pos (by omega)]) | (rw [if_neg (by omega), if_neg (by omega), if_pos (by omega)]) | (rw [if_neg (by omega), if_neg (by omega), if_neg (by omega), if_pos (by omega)]) | (rw [if_neg (by omega), if_neg (by omega), if_neg (by omega), if_neg (by omega), if_pos (by omega)]) | (rw [if_neg (by omega), if_neg (by omega), if_neg (by omega), if_neg (by omega), if_neg (by omega), if_pos (by omega)]) | (rw [if_neg (by omega), if_neg (by omega), if_neg (by omega), if_neg (by omega), if_neg (by omega), if_neg (by omega)])]
  exact end_same (v := .tuple #[]) rfl rfl rfl (by simp [keptB, bxB, okId, okId0]) trivial
  refine r_bin (v := .bool false) (vx := .int .i64 f.tag) (vy := .int .i64 6) rfl rfl rfl rfl (eql_f (by omega)) ?_
  refine r_assign (v := .bool false) rfl rfl rfl ?_
  refine r_doneN (x_then (c_false rfl (c_skip (x_blockN (x_endN ?_)))))
  rw [show takeE x f = x from by unfold takeE; first | (rw [if_pos (by omega)]) | (rw [if_neg (by omega), if_pos (by omega)]) | (rw [if_neg (by omega), if_neg (by omega), if_pos (by omega)]) | (rw [if_neg (by omega), if_neg (by omega), if_neg (by omega), if_pos (by omega)]) | (rw [if_neg (by omega), if_neg (by omega), if_neg (by omega), if_neg (by omega), if_pos (by omega)]) | (rw [if_neg (by omega), if_neg (by omega), if_neg (by omega), if_neg (by omega), if_neg (by omega), if_pos (by omega)]) | (rw [if_neg (by omega), if_neg (by omega), if_neg (by omega), if_neg (by omega), if_neg (by omega), if_neg (by omega)])]
  exact end_same (v := .tuple #[]) rfl rfl rfl (by simp [keptB, bxB, okId, okId0]) trivial
theorem gotE_ok (l : Bs) (c : Nat) (hc : l.length ≤ c) (hb : l.length ≤ 1048576) : CallL Tryd.prog G 38 [slv 0 0 l.length c, .func (.func 39) #[] #[], .func (.func 8) #[] #[]] [rdB l] (.tuple #[entV (gotE l).1, .int .i64 (gotE l).2]) [rdB l] := by
  refine walk (fn := Tryd.f38) (nt := 50) rfl rfl rfl rfl ?_
  refine c_hole 4 (H' := [rdB l, hole, hole, hole, hole]) rfl ?_
  refine c_seq (c_reg ?_)
  refine r_alloc (b := bxB 109 (entC (⟨0, 0, 0, ⟨#[]⟩, (⟨(⟨0, 0, 0, dz, 0⟩ : Head), 0, dz⟩ : Signed), (⟨0, 0, 0, 0, dz⟩ : Claim)⟩ : Entry))) (nid := 1) (H' := [rdB l, bxB 109 (entC (⟨0, 0, 0, ⟨#[]⟩, (⟨(⟨0, 0, 0, dz, 0⟩ : Head), 0, dz⟩ : Signed), (⟨0, 0, 0, 0, dz⟩ : Claim)⟩ : Entry)), hole, hole, hole]) rfl rfl (by kernel_rfl) (by kernel_rfl) ?_
  refine r_assign (v := .int .i64 0) rfl rfl rfl ?_
  refine r_doneN (x_then (c_seq (c_reg ?_)))
  refine r_alloc (b := bxB 109 (entC (⟨0, 0, 0, ⟨#[]⟩, (⟨(⟨0, 0, 0, dz, 0⟩ : Head), 0, dz⟩ : Signed), (⟨0, 0, 0, 0, dz⟩ : Claim)⟩ : Entry))) (nid := 2) (H' := [rdB l, bxB 109 (entC (⟨0, 0, 0, ⟨#[]⟩, (⟨(⟨0, 0, 0, dz, 0⟩ : Head), 0, dz⟩ : Signed), (⟨0, 0, 0, 0, dz⟩ : Claim)⟩ : Entry)), bxB 109 (entC (⟨0, 0, 0, ⟨#[]⟩, (⟨(⟨0, 0, 0, dz, 0⟩ : Head), 0, dz⟩ : Signed), (⟨0, 0, 0, 0, dz⟩ : Claim)⟩ : Entry)), hole, hole]) rfl rfl (by kernel_rfl) (by kernel_rfl) ?_
  refine r_alloc (b := bxB 109 (entC (⟨0, 0, 0, ⟨#[]⟩, (⟨(⟨0, 0, 0, dz, 0⟩ : Head), 0, dz⟩ : Signed), (⟨0, 0, 0, 0, dz⟩ : Claim)⟩ : Entry))) (nid := 3) (H' := [rdB l, bxB 109 (entC (⟨0, 0, 0, ⟨#[]⟩, (⟨(⟨0, 0, 0, dz, 0⟩ : Head), 0, dz⟩ : Signed), (⟨0, 0, 0, 0, dz⟩ : Claim)⟩ : Entry)), bxB 109 (entC (⟨0, 0, 0, ⟨#[]⟩, (⟨(⟨0, 0, 0, dz, 0⟩ : Head), 0, dz⟩ : Signed), (⟨0, 0, 0, 0, dz⟩ : Claim)⟩ : Entry)), bxB 109 (entC (⟨0, 0, 0, ⟨#[]⟩, (⟨(⟨0, 0, 0, dz, 0⟩ : Head), 0, dz⟩ : Signed), (⟨0, 0, 0, 0, dz⟩ : Claim)⟩ : Entry)), hole]) rfl rfl (by kernel_rfl) (by kernel_rfl) ?_
  refine r_doneN (x_then (c_seq (c_reg ?_)))
  refine r_move (v := slv 0 0 l.length c) rfl rfl rfl ?_
  have hrl3 := readF_cnt l
  refine r_callN (e := [some (0, 0)]) (nid := 4) (Read_ok (G := G) l c (by omega) (by omega)) (vals := [slv 0 0 l.length c]) (v := .tuple #[slv 4 0 ((readF l).1.length) ((readF l).1.length), .int .i64 (((readF l).2))]) (H' := [rdB l, bxB 109 (entC (⟨0, 0, 0, ⟨#[]⟩, (⟨(⟨0, 0, 0, dz, 0⟩ : Head), 0, dz⟩ : Signed), (⟨0, 0, 0, 0, dz⟩ : Claim)⟩ : Entry)), bxB 109 (entC (⟨0, 0, 0, ⟨#[]⟩, (⟨(⟨0, 0, 0, dz, 0⟩ : Head), 0, dz⟩ : Signed), (⟨0, 0, 0, 0, dz⟩ : Claim)⟩ : Entry)), bxB 109 (entC (⟨0, 0, 0, ⟨#[]⟩, (⟨(⟨0, 0, 0, dz, 0⟩ : Head), 0, dz⟩ : Signed), (⟨0, 0, 0, 0, dz⟩ : Claim)⟩ : Entry)), rwB cFd ((readF l).1)]) rfl rfl rfl rfl rfl rfl rfl ⟨⟨⟨rfl, rfl, rfl, by first | omega | exact Nat.le_refl _, by first | omega | exact Nat.le_refl _⟩, trivial⟩, ⟨(emb_rd rfl), trivial⟩, rfl, rfl, rfl⟩ (by kernel_rfl) (by kernel_rfl) ?_
  refine r_move (v := .tuple #[slv 4 0 ((readF l).1.length) ((readF l).1.length), .int .i64 (((readF l).2))]) rfl rfl rfl ?_
  refine r_extract (vs := #[slv 4 0 ((readF l).1.length) ((readF l).1.length), .int .i64 (((readF l).2))]) (v := slv 4 0 ((readF l).1.length) ((readF l).1.length)) rfl rfl rfl rfl ?_
  refine r_extract (vs := #[slv 4 0 ((readF l).1.length) ((readF l).1.length), .int .i64 (((readF l).2))]) (v := .int .i64 (((readF l).2))) rfl rfl rfl rfl ?_
  refine r_assign (v := slv 4 0 ((readF l).1.length) ((readF l).1.length)) rfl rfl rfl ?_
  refine r_assign (v := .int .i64 (((readF l).2))) rfl rfl rfl ?_
  refine r_doneN (x_then (c_seq (c_seq (c_reg ?_))))
  refine r_move (v := slv 4 0 ((readF l).1.length) ((readF l).1.length)) rfl rfl rfl ?_
  refine r_len (p := slv 4 0 ((readF l).1.length) ((readF l).1.length)) (v := .int .i64 ((((readF l).1.length) : Nat) : Int)) rfl rfl rfl rfl ?_
  refine r_move (v := .int .i64 0) rfl rfl rfl ?_
  refine r_doneN (x_then (c_block ?_))
  refine c_loopN (fun x : Nat × Entry => match x with | (i, x) => [slv 0 0 l.length c, .func (.func 39) #[] #[], .func (.func 8) #[] #[], dead, dead, dead, pt 1 0, .int .i64 0, pt 2 0, pt 3 0, slv 4 0 ((readF l).1.length) ((readF l).1.length), .int .i64 (((readF l).2)), dead, dead, dead, dead, .tuple #[slv 4 0 ((readF l).1.length) ((readF l).1.length), .int .i64 (((readF l).2))], slv 0 0 l.length c, .tuple #[slv 4 0 ((readF l).1.length) ((readF l).1.length), .int .i64 (((readF l).2))], slv 4 0 ((readF l).1.length) ((readF l).1.length), .int .i64 (((readF l).2)), slv 4 0 ((readF l).1.length) ((readF l).1.length), .int .i64 ((((readF l).1.length) : Nat) : Int), .int .i64 (i : Nat)]) (fun x : Nat × Entry => match x with | (i, x) => [rdB l, bxB 109 (entC (⟨0, 0, 0, ⟨#[]⟩, (⟨(⟨0, 0, 0, dz, 0⟩ : Head), 0, dz⟩ : Signed), (⟨0, 0, 0, 0, dz⟩ : Claim)⟩ : Entry)), bxB 109 (entC x), bxB 109 (entC (⟨0, 0, 0, ⟨#[]⟩, (⟨(⟨0, 0, 0, dz, 0⟩ : Head), 0, dz⟩ : Signed), (⟨0, 0, 0, 0, dz⟩ : Claim)⟩ : Entry)), rwB cFd ((readF l).1)]) (fun x : Nat × Entry => match x with | (i, x) => takeEL ((readF l).1.drop i) x = takeEL (readF l).1 ⟨0, 0, 0, ⟨#[]⟩, ⟨⟨0, 0, 0, dz, 0⟩, 0, dz⟩, ⟨0, 0, 0, 0, dz⟩⟩ ∧ i ≤ (readF l).1.length) (fun x : Nat × Entry => match x with | (i, x) => (readF l).1.length - i) (0, ⟨0, 0, 0, ⟨#[]⟩, ⟨⟨0, 0, 0, dz, 0⟩, 0, dz⟩, ⟨0, 0, 0, 0, dz⟩⟩) ⟨rfl, Nat.zero_le _⟩ ?_ ?_
  · refine weak_to (n := 5) rfl ?_ (by kernel_rfl) (by kernel_rfl)
    repeat (first | exact trivial | refine ⟨.inl rfl, ?_⟩ | refine ⟨.inr ⟨rfl, rfl⟩, ?_⟩ | refine ⟨.inr ⟨congrArg (Value.int .i64) (by first | omega | (dsimp only; omega)), rfl⟩, ?_⟩)
  rintro ⟨i, x⟩ ⟨hR, hi⟩
  dsimp only at *
  refine c_hole 1 (H' := [rdB l, bxB 109 (entC (⟨0, 0, 0, ⟨#[]⟩, (⟨(⟨0, 0, 0, dz, 0⟩ : Head), 0, dz⟩ : Signed), (⟨0, 0, 0, 0, dz⟩ : Claim)⟩ : Entry)), bxB 109 (entC x), bxB 109 (entC (⟨0, 0, 0, ⟨#[]⟩, (⟨(⟨0, 0, 0, dz, 0⟩ : Head), 0, dz⟩ : Signed), (⟨0, 0, 0, 0, dz⟩ : Claim)⟩ : Entry)), rwB cFd ((readF l).1), hole]) rfl ?_
  refine c_seq (c_reg ?_)
  by_cases h1 : (i : Nat) < ((((readF l).1.length) : Nat) : Int)
  refine r_bin (v := .bool true) (vx := .int .i64 (i : Nat)) (vy := .int .i64 ((((readF l).1.length) : Nat) : Int)) rfl rfl rfl rfl (lss_t (by omega)) ?_
  refine r_doneN (x_then (c_seq (c_true rfl (c_skip (x_then (c_seq (c_block (c_seq (c_reg ?_)))))))))
  refine r_idxS (b := 4) (o := 0) (j := i * 2) (m := ((readF l).1.length)) (c := ((readF l).1.length)) (sz := 2) (i := (i : Nat)) (k := .i64) rfl rfl rfl rfl rfl (by omega) (by omega) (by omega) ?_
  refine r_load (p := pt 4 (i * 2)) (v := fdV ((((readF l).1)).getD i default)) rfl rfl rfl (load_rw (n := 0) (m := 2) cFd rfl rfl rfl rfl (by omega) (by omega)) ?_
  refine r_alloc (b := bxB 2 (fdC (⟨0, ⟨#[]⟩⟩ : Field))) (nid := 5) (H' := [rdB l, bxB 109 (entC (⟨0, 0, 0, ⟨#[]⟩, (⟨(⟨0, 0, 0, dz, 0⟩ : Head), 0, dz⟩ : Signed), (⟨0, 0, 0, 0, dz⟩ : Claim)⟩ : Entry)), bxB 109 (entC x), bxB 109 (entC (⟨0, 0, 0, ⟨#[]⟩, (⟨(⟨0, 0, 0, dz, 0⟩ : Head), 0, dz⟩ : Signed), (⟨0, 0, 0, 0, dz⟩ : Claim)⟩ : Entry)), rwB cFd ((readF l).1), bxB 2 (fdC (⟨0, ⟨#[]⟩⟩ : Field))]) rfl rfl (by kernel_rfl) (by kernel_rfl) ?_
  refine r_store (p := pt 5 0) (v := fdV ((((readF l).1)).getD i default)) (b := 5) (blk := bxB 2 (fdC ((((readF l).1)).getD i default))) (H' := [rdB l, bxB 109 (entC (⟨0, 0, 0, ⟨#[]⟩, (⟨(⟨0, 0, 0, dz, 0⟩ : Head), 0, dz⟩ : Signed), (⟨0, 0, 0, 0, dz⟩ : Claim)⟩ : Entry)), bxB 109 (entC x), bxB 109 (entC (⟨0, 0, 0, ⟨#[]⟩, (⟨(⟨0, 0, 0, dz, 0⟩ : Head), 0, dz⟩ : Signed), (⟨0, 0, 0, 0, dz⟩ : Claim)⟩ : Entry)), rwB cFd ((readF l).1), bxB 2 (fdC ((((readF l).1)).getD i default))]) rfl rfl rfl (by kernel_rfl) (by kernel_rfl) ?_
  refine r_doneN (x_then (c_reg ?_))
  refine r_move (v := .func (.func 39) #[] #[]) rfl rfl rfl ?_
  refine r_load (p := pt 5 0) (v := fdV ((((readF l).1)).getD i default)) rfl rfl rfl (by kernel_rfl) ?_
  refine r_callN (e := [some (2, 0)]) (nid := 0) (takeE_ok (G := G) x ((((readF l).1)).getD i default) (by have := readF_sz l i (by omega); omega)) (vals := [pt 2 0, fdV ((((readF l).1)).getD i default)]) (v := .tuple #[]) (H' := [rdB l, bxB 109 (entC (⟨0, 0, 0, ⟨#[]⟩, (⟨(⟨0, 0, 0, dz, 0⟩ : Head), 0, dz⟩ : Signed), (⟨0, 0, 0, 0, dz⟩ : Claim)⟩ : Entry)), bxB 109 (entC (takeE x ((((readF l).1)).getD i default))), bxB 109 (entC (⟨0, 0, 0, ⟨#[]⟩, (⟨(⟨0, 0, 0, dz, 0⟩ : Head), 0, dz⟩ : Signed), (⟨0, 0, 0, 0, dz⟩ : Claim)⟩ : Entry)), rwB cFd ((readF l).1), bxB 2 (fdC ((((readF l).1)).getD i default))]) rfl rfl rfl rfl rfl rfl rfl ⟨⟨⟨rfl, rfl⟩, rfl, trivial⟩, ⟨(emb_wr rfl rfl rfl rfl), trivial⟩, rfl, rfl, rfl⟩ (by kernel_rfl) (by kernel_rfl) ?_
  refine r_doneN (x_blockN (x_then (c_reg ?_)))
  refine r_bin (v := .int .i64 ((i : Nat) + 1)) (vx := .int .i64 (i : Nat)) (vy := .int .i64 1) rfl rfl rfl rfl (bin_add (by omega) (by omega) (by omega)) ?_
  refine r_move (v := .int .i64 ((i : Nat) + 1)) rfl rfl rfl ?_
  refine r_doneN ?_
  refine x_round ⟨((i + 1), (takeE x ((((readF l).1)).getD i default))), ⟨takeEL_step hR (by omega), by dsimp only; omega⟩, by show (readF l).1.length - (i + 1) < (readF l).1.length - i; omega, ?_⟩
  refine weak_to (n := 5) rfl ?_ (by kernel_rfl) (by kernel_rfl)
  repeat (first | exact trivial | refine ⟨.inl rfl, ?_⟩ | refine ⟨.inr ⟨rfl, rfl⟩, ?_⟩ | refine ⟨.inr ⟨congrArg (Value.int .i64) (by first | omega | (dsimp only; omega)), rfl⟩, ?_⟩)
  refine r_bin (v := .bool false) (vx := .int .i64 (i : Nat)) (vy := .int .i64 ((((readF l).1.length) : Nat) : Int)) rfl rfl rfl rfl (lss_f (by omega)) ?_
  refine r_doneN (x_then (c_seq (c_false rfl (c_exit (x_thenE (x_leaveE (x_block rfl (x_then (c_seq (c_seq (c_reg ?_)))))))))))
  refine r_move (v := .func (.func 8) #[] #[]) rfl rfl rfl ?_
  refine r_load (p := pt 2 0) (v := entV x) rfl rfl rfl (by kernel_rfl) ?_
  refine r_callN (e := []) (nid := 5) (EPut_ok (G := G) x) (vals := [entV x]) (v := .tuple #[slv 5 0 ((putE x).1.length) ((putE x).1.length), .int .i64 (((putE x).2))]) (H' := [rdB l, bxB 109 (entC (⟨0, 0, 0, ⟨#[]⟩, (⟨(⟨0, 0, 0, dz, 0⟩ : Head), 0, dz⟩ : Signed), (⟨0, 0, 0, 0, dz⟩ : Claim)⟩ : Entry)), bxB 109 (entC x), bxB 109 (entC (⟨0, 0, 0, ⟨#[]⟩, (⟨(⟨0, 0, 0, dz, 0⟩ : Head), 0, dz⟩ : Signed), (⟨0, 0, 0, 0, dz⟩ : Claim)⟩ : Entry)), rwB cFd ((readF l).1), rowB ((putE x).1)]) rfl rfl rfl rfl rfl rfl rfl ⟨⟨rfl, trivial⟩, trivial, rfl, rfl, rfl⟩ (by kernel_rfl) (by kernel_rfl) ?_
  refine r_move (v := .tuple #[slv 5 0 ((putE x).1.length) ((putE x).1.length), .int .i64 (((putE x).2))]) rfl rfl rfl ?_
  refine r_extract (vs := #[slv 5 0 ((putE x).1.length) ((putE x).1.length), .int .i64 (((putE x).2))]) (v := slv 5 0 ((putE x).1.length) ((putE x).1.length)) rfl rfl rfl rfl ?_
  refine r_extract (vs := #[slv 5 0 ((putE x).1.length) ((putE x).1.length), .int .i64 (((putE x).2))]) (v := .int .i64 (((putE x).2))) rfl rfl rfl rfl ?_
  refine r_assign (v := slv 5 0 ((putE x).1.length) ((putE x).1.length)) rfl rfl rfl ?_
  refine r_assign (v := .int .i64 (((putE x).2))) rfl rfl rfl ?_
  refine r_doneN (x_then (c_seq (c_reg ?_)))
  refine r_move (v := .int .i64 (((readF l).2))) rfl rfl rfl ?_
  by_cases h2 : (((readF l).2)) = 0
  refine r_bin (v := .bool true) (vx := .int .i64 (((readF l).2))) (vy := .int .i64 0) rfl rfl rfl rfl (eql_t (by omega)) ?_
  refine r_move (v := .bool true) rfl rfl rfl ?_
  refine r_move (v := .int .i64 (((putE x).2))) rfl rfl rfl ?_
  by_cases h3 : (((putE x).2)) = 0
  refine r_bin (v := .bool true) (vx := .int .i64 (((putE x).2))) (vy := .int .i64 0) rfl rfl rfl rfl (eql_t (by omega)) ?_
  refine r_pick (v := .bool true) rfl rfl rfl ?_
  refine r_move (v := .bool true) rfl rfl rfl ?_
  refine r_move (v := slv 5 0 ((putE x).1.length) ((putE x).1.length)) rfl rfl rfl ?_
  refine r_move (v := slv 0 0 l.length c) rfl rfl rfl ?_
  refine r_callN (e := [some (5, 0), some (0, 0)]) (nid := 0) (bytesEq_ok (G := G) ((putE x).1) l ((putE x).1.length) ((putE x).1.length) l.length c rfl rfl (by omega) (by omega)) (vals := [slv 5 0 ((putE x).1.length) ((putE x).1.length), slv 0 0 l.length c]) (v := .bool (sameT (strOf ((putE x).1)) (strOf l))) (H' := [rdB l, bxB 109 (entC (⟨0, 0, 0, ⟨#[]⟩, (⟨(⟨0, 0, 0, dz, 0⟩ : Head), 0, dz⟩ : Signed), (⟨0, 0, 0, 0, dz⟩ : Claim)⟩ : Entry)), bxB 109 (entC x), bxB 109 (entC (⟨0, 0, 0, ⟨#[]⟩, (⟨(⟨0, 0, 0, dz, 0⟩ : Head), 0, dz⟩ : Signed), (⟨0, 0, 0, 0, dz⟩ : Claim)⟩ : Entry)), rwB cFd ((readF l).1), rowB ((putE x).1)]) rfl rfl rfl rfl rfl rfl rfl ⟨⟨⟨rfl, rfl, rfl, by first | omega | exact Nat.le_refl _, by first | omega | exact Nat.le_refl _⟩, ⟨rfl, rfl, rfl, by first | omega | exact Nat.le_refl _, by first | omega | exact Nat.le_refl _⟩, trivial⟩, ⟨(emb_rdW rfl), (emb_rd rfl), trivial⟩, rfl, rfl, rfl⟩ rfl (by kernel_rfl) ?_
  refine r_pick (v := .bool (sameT (strOf ((putE x).1)) (strOf l))) rfl rfl rfl ?_
  refine r_doneN (x_then ?_)
  rcases Bool.eq_false_or_eq_true (sameT (strOf ((putE x).1)) (strOf l)) with h4 | h4
  refine c_true (congrArg Value.bool h4) ?_
  refine c_seq (c_reg ?_)
  refine r_load (p := pt 2 0) (v := entV x) rfl rfl rfl (by kernel_rfl) ?_
  refine r_store (p := pt 1 0) (v := entV x) (b := 1) (blk := bxB 109 (entC x)) (H' := [rdB l, bxB 109 (entC x), bxB 109 (entC x), bxB 109 (entC (⟨0, 0, 0, ⟨#[]⟩, (⟨(⟨0, 0, 0, dz, 0⟩ : Head), 0, dz⟩ : Signed), (⟨0, 0, 0, 0, dz⟩ : Claim)⟩ : Entry)), rwB cFd ((readF l).1), rowB ((putE x).1)]) rfl rfl rfl (by kernel_rfl) (by kernel_rfl) ?_
  refine r_assign (v := .int .i64 0) rfl rfl rfl ?_
  refine r_doneN (x_then (c_ret (x_thenR (x_end ?_))))
  have hx : x = takeEL (readF l).1 ⟨0, 0, 0, ⟨#[]⟩, ⟨⟨0, 0, 0, dz, 0⟩, 0, dz⟩, ⟨0, 0, 0, 0, dz⟩⟩ := by rw [← hR, List.drop_of_length_le (by omega)]; rfl
  rw [show gotE l = (x, 0) from by unfold gotE; rw [← hx]; exact if_pos ⟨by omega, by omega, by assumption⟩]
  exact end_same (v := .tuple #[entV x, .int .i64 0]) (by kernel_rfl) rfl rfl (by simp [keptB, rdB]) ⟨(argV_p (by kernel_rfl) rfl), rfl, trivial⟩
  refine c_false (congrArg Value.bool h4) ?_
  refine c_skip (x_then (c_seq (c_reg ?_)))
  refine r_load (p := pt 3 0) (v := entV (⟨0, 0, 0, ⟨#[]⟩, (⟨(⟨0, 0, 0, dz, 0⟩ : Head), 0, dz⟩ : Signed), (⟨0, 0, 0, 0, dz⟩ : Claim)⟩ : Entry)) rfl rfl rfl (by kernel_rfl) ?_
  refine r_store (p := pt 1 0) (v := entV (⟨0, 0, 0, ⟨#[]⟩, (⟨(⟨0, 0, 0, dz, 0⟩ : Head), 0, dz⟩ : Signed), (⟨0, 0, 0, 0, dz⟩ : Claim)⟩ : Entry)) (b := 1) (blk := bxB 109 (entC (⟨0, 0, 0, ⟨#[]⟩, (⟨(⟨0, 0, 0, dz, 0⟩ : Head), 0, dz⟩ : Signed), (⟨0, 0, 0, 0, dz⟩ : Claim)⟩ : Entry))) (H' := [rdB l, bxB 109 (entC (⟨0, 0, 0, ⟨#[]⟩, (⟨(⟨0, 0, 0, dz, 0⟩ : Head), 0, dz⟩ : Signed), (⟨0, 0, 0, 0, dz⟩ : Claim)⟩ : Entry)), bxB 109 (entC x), bxB 109 (entC (⟨0, 0, 0, ⟨#[]⟩, (⟨(⟨0, 0, 0, dz, 0⟩ : Head), 0, dz⟩ : Signed), (⟨0, 0, 0, 0, dz⟩ : Claim)⟩ : Entry)), rwB cFd ((readF l).1), rowB ((putE x).1)]) rfl rfl rfl (by kernel_rfl) (by kernel_rfl) ?_
  refine r_assign (v := .int .i64 60) rfl rfl rfl ?_
  refine r_doneN (x_then (c_ret (x_end ?_)))
  have hx : x = takeEL (readF l).1 ⟨0, 0, 0, ⟨#[]⟩, ⟨⟨0, 0, 0, dz, 0⟩, 0, dz⟩, ⟨0, 0, 0, 0, dz⟩⟩ := by rw [← hR, List.drop_of_length_le (by omega)]; rfl
  rw [show gotE l = (⟨0, 0, 0, ⟨#[]⟩, ⟨⟨0, 0, 0, dz, 0⟩, 0, dz⟩, ⟨0, 0, 0, 0, dz⟩⟩, 60) from by unfold gotE; rw [← hx]; exact if_neg (fun q => by have q1 := q.1; have q2 := q.2.1; have q3 := q.2.2; first | omega | (simp_all; done))]
  exact end_same (v := .tuple #[entV (⟨0, 0, 0, ⟨#[]⟩, (⟨(⟨0, 0, 0, dz, 0⟩ : Head), 0, dz⟩ : Signed), (⟨0, 0, 0, 0, dz⟩ : Claim)⟩ : Entry), .int .i64 60]) (by kernel_rfl) rfl rfl (by simp [keptB, rdB]) ⟨(argV_p (by kernel_rfl) rfl), rfl, trivial⟩
  refine r_bin (v := .bool false) (vx := .int .i64 (((putE x).2))) (vy := .int .i64 0) rfl rfl rfl rfl (eql_f (by omega)) ?_
  refine r_pick (v := .bool false) rfl rfl rfl ?_
  refine r_move (v := .bool false) rfl rfl rfl ?_
  refine r_skip rfl rfl (r_skip rfl rfl (r_skip rfl rfl ?_))
  refine r_pick (v := .bool false) rfl rfl rfl ?_
  refine r_doneN (x_then (c_false rfl (c_skip (x_then (c_seq (c_reg ?_))))))
  refine r_load (p := pt 3 0) (v := entV (⟨0, 0, 0, ⟨#[]⟩, (⟨(⟨0, 0, 0, dz, 0⟩ : Head), 0, dz⟩ : Signed), (⟨0, 0, 0, 0, dz⟩ : Claim)⟩ : Entry)) rfl rfl rfl (by kernel_rfl) ?_
  refine r_store (p := pt 1 0) (v := entV (⟨0, 0, 0, ⟨#[]⟩, (⟨(⟨0, 0, 0, dz, 0⟩ : Head), 0, dz⟩ : Signed), (⟨0, 0, 0, 0, dz⟩ : Claim)⟩ : Entry)) (b := 1) (blk := bxB 109 (entC (⟨0, 0, 0, ⟨#[]⟩, (⟨(⟨0, 0, 0, dz, 0⟩ : Head), 0, dz⟩ : Signed), (⟨0, 0, 0, 0, dz⟩ : Claim)⟩ : Entry))) (H' := [rdB l, bxB 109 (entC (⟨0, 0, 0, ⟨#[]⟩, (⟨(⟨0, 0, 0, dz, 0⟩ : Head), 0, dz⟩ : Signed), (⟨0, 0, 0, 0, dz⟩ : Claim)⟩ : Entry)), bxB 109 (entC x), bxB 109 (entC (⟨0, 0, 0, ⟨#[]⟩, (⟨(⟨0, 0, 0, dz, 0⟩ : Head), 0, dz⟩ : Signed), (⟨0, 0, 0, 0, dz⟩ : Claim)⟩ : Entry)), rwB cFd ((readF l).1), rowB ((putE x).1)]) rfl rfl rfl (by kernel_rfl) (by kernel_rfl) ?_
  refine r_assign (v := .int .i64 60) rfl rfl rfl ?_
  refine r_doneN (x_then (c_ret (x_end ?_)))
  have hx : x = takeEL (readF l).1 ⟨0, 0, 0, ⟨#[]⟩, ⟨⟨0, 0, 0, dz, 0⟩, 0, dz⟩, ⟨0, 0, 0, 0, dz⟩⟩ := by rw [← hR, List.drop_of_length_le (by omega)]; rfl
  rw [show gotE l = (⟨0, 0, 0, ⟨#[]⟩, ⟨⟨0, 0, 0, dz, 0⟩, 0, dz⟩, ⟨0, 0, 0, 0, dz⟩⟩, 60) from by unfold gotE; rw [← hx]; exact if_neg (fun q => by have q1 := q.1; have q2 := q.2.1; have q3 := q.2.2; first | omega | (simp_all; done))]
  exact end_same (v := .tuple #[entV (⟨0, 0, 0, ⟨#[]⟩, (⟨(⟨0, 0, 0, dz, 0⟩ : Head), 0, dz⟩ : Signed), (⟨0, 0, 0, 0, dz⟩ : Claim)⟩ : Entry), .int .i64 60]) (by kernel_rfl) rfl rfl (by simp [keptB, rdB]) ⟨(argV_p (by kernel_rfl) rfl), rfl, trivial⟩
  refine r_bin (v := .bool false) (vx := .int .i64 (((readF l).2))) (vy := .int .i64 0) rfl rfl rfl rfl (eql_f (by omega)) ?_
  refine r_move (v := .bool false) rfl rfl rfl ?_
  refine r_skip rfl rfl (r_skip rfl rfl ?_)
  refine r_pick (v := .bool false) rfl rfl rfl ?_
  refine r_move (v := .bool false) rfl rfl rfl ?_
  refine r_skip rfl rfl (r_skip rfl rfl (r_skip rfl rfl ?_))
  refine r_pick (v := .bool false) rfl rfl rfl ?_
  refine r_doneN (x_then (c_false rfl (c_skip (x_then (c_seq (c_reg ?_))))))
  refine r_load (p := pt 3 0) (v := entV (⟨0, 0, 0, ⟨#[]⟩, (⟨(⟨0, 0, 0, dz, 0⟩ : Head), 0, dz⟩ : Signed), (⟨0, 0, 0, 0, dz⟩ : Claim)⟩ : Entry)) rfl rfl rfl (by kernel_rfl) ?_
  refine r_store (p := pt 1 0) (v := entV (⟨0, 0, 0, ⟨#[]⟩, (⟨(⟨0, 0, 0, dz, 0⟩ : Head), 0, dz⟩ : Signed), (⟨0, 0, 0, 0, dz⟩ : Claim)⟩ : Entry)) (b := 1) (blk := bxB 109 (entC (⟨0, 0, 0, ⟨#[]⟩, (⟨(⟨0, 0, 0, dz, 0⟩ : Head), 0, dz⟩ : Signed), (⟨0, 0, 0, 0, dz⟩ : Claim)⟩ : Entry))) (H' := [rdB l, bxB 109 (entC (⟨0, 0, 0, ⟨#[]⟩, (⟨(⟨0, 0, 0, dz, 0⟩ : Head), 0, dz⟩ : Signed), (⟨0, 0, 0, 0, dz⟩ : Claim)⟩ : Entry)), bxB 109 (entC x), bxB 109 (entC (⟨0, 0, 0, ⟨#[]⟩, (⟨(⟨0, 0, 0, dz, 0⟩ : Head), 0, dz⟩ : Signed), (⟨0, 0, 0, 0, dz⟩ : Claim)⟩ : Entry)), rwB cFd ((readF l).1), rowB ((putE x).1)]) rfl rfl rfl (by kernel_rfl) (by kernel_rfl) ?_
  refine r_assign (v := .int .i64 60) rfl rfl rfl ?_
  refine r_doneN (x_then (c_ret (x_end ?_)))
  have hx : x = takeEL (readF l).1 ⟨0, 0, 0, ⟨#[]⟩, ⟨⟨0, 0, 0, dz, 0⟩, 0, dz⟩, ⟨0, 0, 0, 0, dz⟩⟩ := by rw [← hR, List.drop_of_length_le (by omega)]; rfl
  rw [show gotE l = (⟨0, 0, 0, ⟨#[]⟩, ⟨⟨0, 0, 0, dz, 0⟩, 0, dz⟩, ⟨0, 0, 0, 0, dz⟩⟩, 60) from by unfold gotE; rw [← hx]; exact if_neg (fun q => by have q1 := q.1; have q2 := q.2.1; have q3 := q.2.2; first | omega | (simp_all; done))]
  exact end_same (v := .tuple #[entV (⟨0, 0, 0, ⟨#[]⟩, (⟨(⟨0, 0, 0, dz, 0⟩ : Head), 0, dz⟩ : Signed), (⟨0, 0, 0, 0, dz⟩ : Claim)⟩ : Entry), .int .i64 60]) (by kernel_rfl) rfl rfl (by simp [keptB, rdB]) ⟨(argV_p (by kernel_rfl) rfl), rfl, trivial⟩
theorem EGet_ok (l : Bs) (c : Nat) (hc : l.length ≤ c) (hb : l.length ≤ 1048576) : CallL Tryd.prog G 12 [slv 0 0 l.length c] [rdB l] (.tuple #[entV (gotE l).1, .int .i64 (gotE l).2]) [rdB l] := by
  refine walk (fn := Tryd.f12) (nt := 8) rfl rfl rfl rfl ?_
  refine c_hole 1 (H' := [rdB l, hole]) rfl ?_
  refine c_seq (c_reg ?_)
  refine r_alloc (b := bxB 109 (entC (⟨0, 0, 0, ⟨#[]⟩, (⟨(⟨0, 0, 0, dz, 0⟩ : Head), 0, dz⟩ : Signed), (⟨0, 0, 0, 0, dz⟩ : Claim)⟩ : Entry))) (nid := 1) (H' := [rdB l, bxB 109 (entC (⟨0, 0, 0, ⟨#[]⟩, (⟨(⟨0, 0, 0, dz, 0⟩ : Head), 0, dz⟩ : Signed), (⟨0, 0, 0, 0, dz⟩ : Claim)⟩ : Entry))]) rfl rfl (by kernel_rfl) (by kernel_rfl) ?_
  refine r_assign (v := .int .i64 0) rfl rfl rfl ?_
  refine r_doneN (x_then (c_seq (c_reg ?_)))
  refine r_move (v := slv 0 0 l.length c) rfl rfl rfl ?_
  refine r_callN (e := [some (0, 0)]) (nid := 0) (gotE_ok (G := G) l c (by omega) (by omega)) (vals := [slv 0 0 l.length c, .func (.func 39) #[] #[], .func (.func 8) #[] #[]]) (v := .tuple #[entV ((gotE l).1), .int .i64 (((gotE l).2))]) (H' := [rdB l, bxB 109 (entC (⟨0, 0, 0, ⟨#[]⟩, (⟨(⟨0, 0, 0, dz, 0⟩ : Head), 0, dz⟩ : Signed), (⟨0, 0, 0, 0, dz⟩ : Claim)⟩ : Entry))]) rfl rfl rfl rfl rfl rfl rfl ⟨⟨⟨rfl, rfl, rfl, by first | omega | exact Nat.le_refl _, by first | omega | exact Nat.le_refl _⟩, ⟨by simp [renC, renC0], by kernel_rfl⟩, ⟨by simp [renC, renC0], by kernel_rfl⟩, trivial⟩, ⟨(emb_rd rfl), trivial⟩, rfl, rfl, rfl⟩ (by kernel_rfl) (by kernel_rfl) ?_
  refine r_extract (vs := #[entV ((gotE l).1), .int .i64 (((gotE l).2))]) (v := entV ((gotE l).1)) rfl rfl rfl rfl ?_
  refine r_extract (vs := #[entV ((gotE l).1), .int .i64 (((gotE l).2))]) (v := .int .i64 (((gotE l).2))) rfl rfl rfl rfl ?_
  refine r_store (p := pt 1 0) (v := entV ((gotE l).1)) (b := 1) (blk := bxB 109 (entC ((gotE l).1))) (H' := [rdB l, bxB 109 (entC ((gotE l).1))]) rfl rfl rfl (by kernel_rfl) (by kernel_rfl) ?_
  refine r_assign (v := .int .i64 (((gotE l).2))) rfl rfl rfl ?_
  refine r_doneN (x_then (c_ret (x_end ?_)))
  exact end_same (v := .tuple #[entV ((gotE l).1), .int .i64 (((gotE l).2))]) (by kernel_rfl) rfl rfl (by simp [keptB, rdB]) ⟨(argV_p (by kernel_rfl) rfl), rfl, trivial⟩
theorem Get_n (l : Bs) (n c : Nat) (hn : l.length = n) (hc : n ≤ c) (hb : n ≤ 1048576) : CallL Tryd.prog G 12 [slv 0 0 n c] [rdB l] (.tuple #[entV (gotE l).1, .int .i64 (gotE l).2]) [rdB l] := by
  subst hn; exact EGet_ok (G := G) l c hc hb
theorem takeI_ok (x : Item) (f : Field) (hs : f.data.size ≤ 1048576) : CallL Tryd.prog G 45 [pt 0 0, fdV f] [bxB 110 (itemC x)] (.tuple #[]) [bxB 110 (itemC (takeI x f))] := by
  refine walk (fn := Tryd.f45) (nt := 26) rfl rfl rfl rfl ?_
  refine c_hole 2 (H' := [bxB 110 (itemC x), hole, hole]) rfl ?_
  refine c_seq (c_reg ?_)
  refine r_box (v := fdV f) (b := bxB 2 (fdC f)) (nid := 1) (H' := [bxB 110 (itemC x), bxB 2 (fdC f), hole]) rfl rfl rfl (by kernel_rfl) (by kernel_rfl) ?_
  refine r_doneN (x_then (c_seq (c_reg ?_)))
  refine r_fieldAddr (b := 1) (o := 0) (n := 0) (o' := 0) rfl rfl rfl rfl rfl ?_
  refine r_load (p := pt 1 0) (v := .int .i64 f.tag) rfl rfl rfl (by kernel_rfl) ?_
  refine r_doneN (x_then (c_block (c_seq (c_reg ?_))))
  by_cases h1 : f.tag = 1
  refine r_bin (v := .bool true) (vx := .int .i64 f.tag) (vy := .int .i64 1) rfl rfl rfl rfl (eql_t (by omega)) ?_
  refine r_assign (v := .bool true) rfl rfl rfl ?_
  refine r_doneN (x_then (c_true rfl (c_reg ?_)))
  refine r_move (v := pt 0 0) rfl rfl rfl ?_
  refine r_fieldAddr (b := 1) (o := 0) (n := 1) (o' := 1) rfl rfl rfl rfl rfl ?_
  refine r_load (p := pt 1 1) (v := .string f.data) rfl rfl rfl (by kernel_rfl) ?_
  refine r_callP (enumber_ok (G := G) f.data) (vals := [.string f.data]) (res' := .int .i64 (((valS f.data).1))) rfl rfl rfl rfl rfl rfl ?_
  refine r_nilCheck (p := pt 0 0) (v := pt 0 0) rfl rfl rfl rfl ?_
  refine r_fieldAddr (b := 0) (o := 0) (n := 0) (o' := 0) rfl rfl rfl rfl rfl ?_
  refine r_store (p := pt 0 0) (v := .int .i64 (((valS f.data).1))) (b := 0) (blk := bxB 110 (itemC (⟨(((valS f.data).1)), x.entry⟩ : Item))) (H' := [bxB 110 (itemC (⟨(((valS f.data).1)), x.entry⟩ : Item)), bxB 2 (fdC f), hole]) rfl rfl rfl (by kernel_rfl) (by kernel_rfl) ?_
  refine r_doneN (x_blockN (x_endN ?_))
  rw [show takeI x f = (⟨(((valS f.data).1)), x.entry⟩ : Item) from by unfold takeI; first | (rw [if_pos (by omega)]) | (rw [if_neg (by omega), if_pos (by omega)]) | (rw [if_neg (by omega), if_neg (by omega)])]
  exact end_same (v := .tuple #[]) rfl rfl rfl (by simp [keptB, bxB, okId, okId0]) trivial
  refine r_bin (v := .bool false) (vx := .int .i64 f.tag) (vy := .int .i64 1) rfl rfl rfl rfl (eql_f (by omega)) ?_
  refine r_assign (v := .bool false) rfl rfl rfl ?_
  refine r_doneN (x_then (c_false rfl (c_seq (c_reg ?_))))
  by_cases h2 : f.tag = 2
  refine r_bin (v := .bool true) (vx := .int .i64 f.tag) (vy := .int .i64 2) rfl rfl rfl rfl (eql_t (by omega)) ?_
  refine r_assign (v := .bool true) rfl rfl rfl ?_
  refine r_doneN (x_then (c_true rfl (c_reg ?_)))
  refine r_move (v := pt 0 0) rfl rfl rfl ?_
  refine r_fieldAddr (b := 1) (o := 0) (n := 1) (o' := 1) rfl rfl rfl rfl rfl ?_
  refine r_load (p := pt 1 1) (v := .string f.data) rfl rfl rfl (by kernel_rfl) ?_
  refine r_toBytes (p := .string f.data) (v := slv 2 0 f.data.size f.data.size) (blk := rowB (bl f.data)) (nid := 2) (H' := [bxB 110 (itemC x), bxB 2 (fdC f), rowB (bl f.data)]) rfl rfl rfl (bytes_of rfl rfl rfl) (by kernel_rfl) ?_
  refine r_callN (e := [some (2, 0)]) (nid := 0) (Get_n (G := G) (bl f.data) f.data.size f.data.size (bl_len f.data) (by omega) (by omega)) (vals := [slv 2 0 f.data.size f.data.size]) (v := .tuple #[entV ((gotE (bl f.data)).1), .int .i64 (((gotE (bl f.data)).2))]) (H' := [bxB 110 (itemC x), bxB 2 (fdC f), rowB (bl f.data)]) rfl rfl rfl rfl rfl rfl rfl ⟨⟨⟨rfl, rfl, rfl, by first | omega | exact Nat.le_refl _, by first | omega | exact Nat.le_refl _⟩, trivial⟩, ⟨(emb_rdW rfl), trivial⟩, rfl, rfl, rfl⟩ (by kernel_rfl) (by kernel_rfl) ?_
  refine r_move (v := .tuple #[entV ((gotE (bl f.data)).1), .int .i64 (((gotE (bl f.data)).2))]) rfl rfl rfl ?_
  refine r_extract (vs := #[entV ((gotE (bl f.data)).1), .int .i64 (((gotE (bl f.data)).2))]) (v := entV ((gotE (bl f.data)).1)) rfl rfl rfl rfl ?_
  refine r_extract (vs := #[entV ((gotE (bl f.data)).1), .int .i64 (((gotE (bl f.data)).2))]) (v := .int .i64 (((gotE (bl f.data)).2))) rfl rfl rfl rfl ?_
  refine r_nilCheck (p := pt 0 0) (v := pt 0 0) rfl rfl rfl rfl ?_
  refine r_fieldAddr (b := 0) (o := 0) (n := 1) (o' := 1) rfl rfl rfl rfl rfl ?_
  refine r_store (p := pt 0 1) (v := entV ((gotE (bl f.data)).1)) (b := 0) (blk := bxB 110 (itemC (⟨x.epoch, (gotE (bl f.data)).1⟩ : Item))) (H' := [bxB 110 (itemC (⟨x.epoch, (gotE (bl f.data)).1⟩ : Item)), bxB 2 (fdC f), rowB (bl f.data)]) rfl rfl rfl (by kernel_rfl) (by kernel_rfl) ?_
  refine r_doneN (x_blockN (x_endN ?_))
  rw [show takeI x f = (⟨x.epoch, (gotE (bl f.data)).1⟩ : Item) from by unfold takeI; first | (rw [if_pos (by omega)]) | (rw [if_neg (by omega), if_pos (by omega)]) | (rw [if_neg (by omega), if_neg (by omega)])]
  exact end_same (v := .tuple #[]) rfl rfl rfl (by simp [keptB, bxB, okId, okId0]) trivial
  refine r_bin (v := .bool false) (vx := .int .i64 f.tag) (vy := .int .i64 2) rfl rfl rfl rfl (eql_f (by omega)) ?_
  refine r_assign (v := .bool false) rfl rfl rfl ?_
  refine r_doneN (x_then (c_false rfl (c_skip (x_blockN (x_endN ?_)))))
  rw [show takeI x f = x from by unfold takeI; first | (rw [if_pos (by omega)]) | (rw [if_neg (by omega), if_pos (by omega)]) | (rw [if_neg (by omega), if_neg (by omega)])]
  exact end_same (v := .tuple #[]) rfl rfl rfl (by simp [keptB, bxB, okId, okId0]) trivial
theorem gotI_ok (l : Bs) (c : Nat) (hc : l.length ≤ c) (hb : l.length ≤ 1048576) : CallL Tryd.prog G 44 [slv 0 0 l.length c, .func (.func 45) #[] #[], .func (.func 13) #[] #[]] [rdB l] (.tuple #[itemV (gotI l).1, .int .i64 (gotI l).2]) [rdB l] := by
  refine walk (fn := Tryd.f44) (nt := 50) rfl rfl rfl rfl ?_
  refine c_hole 4 (H' := [rdB l, hole, hole, hole, hole]) rfl ?_
  refine c_seq (c_reg ?_)
  refine r_alloc (b := bxB 110 (itemC (⟨0, (⟨0, 0, 0, ⟨#[]⟩, (⟨(⟨0, 0, 0, dz, 0⟩ : Head), 0, dz⟩ : Signed), (⟨0, 0, 0, 0, dz⟩ : Claim)⟩ : Entry)⟩ : Item))) (nid := 1) (H' := [rdB l, bxB 110 (itemC (⟨0, (⟨0, 0, 0, ⟨#[]⟩, (⟨(⟨0, 0, 0, dz, 0⟩ : Head), 0, dz⟩ : Signed), (⟨0, 0, 0, 0, dz⟩ : Claim)⟩ : Entry)⟩ : Item)), hole, hole, hole]) rfl rfl (by kernel_rfl) (by kernel_rfl) ?_
  refine r_assign (v := .int .i64 0) rfl rfl rfl ?_
  refine r_doneN (x_then (c_seq (c_reg ?_)))
  refine r_alloc (b := bxB 110 (itemC (⟨0, (⟨0, 0, 0, ⟨#[]⟩, (⟨(⟨0, 0, 0, dz, 0⟩ : Head), 0, dz⟩ : Signed), (⟨0, 0, 0, 0, dz⟩ : Claim)⟩ : Entry)⟩ : Item))) (nid := 2) (H' := [rdB l, bxB 110 (itemC (⟨0, (⟨0, 0, 0, ⟨#[]⟩, (⟨(⟨0, 0, 0, dz, 0⟩ : Head), 0, dz⟩ : Signed), (⟨0, 0, 0, 0, dz⟩ : Claim)⟩ : Entry)⟩ : Item)), bxB 110 (itemC (⟨0, (⟨0, 0, 0, ⟨#[]⟩, (⟨(⟨0, 0, 0, dz, 0⟩ : Head), 0, dz⟩ : Signed), (⟨0, 0, 0, 0, dz⟩ : Claim)⟩ : Entry)⟩ : Item)), hole, hole]) rfl rfl (by kernel_rfl) (by kernel_rfl) ?_
  refine r_alloc (b := bxB 110 (itemC (⟨0, (⟨0, 0, 0, ⟨#[]⟩, (⟨(⟨0, 0, 0, dz, 0⟩ : Head), 0, dz⟩ : Signed), (⟨0, 0, 0, 0, dz⟩ : Claim)⟩ : Entry)⟩ : Item))) (nid := 3) (H' := [rdB l, bxB 110 (itemC (⟨0, (⟨0, 0, 0, ⟨#[]⟩, (⟨(⟨0, 0, 0, dz, 0⟩ : Head), 0, dz⟩ : Signed), (⟨0, 0, 0, 0, dz⟩ : Claim)⟩ : Entry)⟩ : Item)), bxB 110 (itemC (⟨0, (⟨0, 0, 0, ⟨#[]⟩, (⟨(⟨0, 0, 0, dz, 0⟩ : Head), 0, dz⟩ : Signed), (⟨0, 0, 0, 0, dz⟩ : Claim)⟩ : Entry)⟩ : Item)), bxB 110 (itemC (⟨0, (⟨0, 0, 0, ⟨#[]⟩, (⟨(⟨0, 0, 0, dz, 0⟩ : Head), 0, dz⟩ : Signed), (⟨0, 0, 0, 0, dz⟩ : Claim)⟩ : Entry)⟩ : Item)), hole]) rfl rfl (by kernel_rfl) (by kernel_rfl) ?_
  refine r_doneN (x_then (c_seq (c_reg ?_)))
  refine r_move (v := slv 0 0 l.length c) rfl rfl rfl ?_
  have hrl3 := readF_cnt l
  refine r_callN (e := [some (0, 0)]) (nid := 4) (Read_ok (G := G) l c (by omega) (by omega)) (vals := [slv 0 0 l.length c]) (v := .tuple #[slv 4 0 ((readF l).1.length) ((readF l).1.length), .int .i64 (((readF l).2))]) (H' := [rdB l, bxB 110 (itemC (⟨0, (⟨0, 0, 0, ⟨#[]⟩, (⟨(⟨0, 0, 0, dz, 0⟩ : Head), 0, dz⟩ : Signed), (⟨0, 0, 0, 0, dz⟩ : Claim)⟩ : Entry)⟩ : Item)), bxB 110 (itemC (⟨0, (⟨0, 0, 0, ⟨#[]⟩, (⟨(⟨0, 0, 0, dz, 0⟩ : Head), 0, dz⟩ : Signed), (⟨0, 0, 0, 0, dz⟩ : Claim)⟩ : Entry)⟩ : Item)), bxB 110 (itemC (⟨0, (⟨0, 0, 0, ⟨#[]⟩, (⟨(⟨0, 0, 0, dz, 0⟩ : Head), 0, dz⟩ : Signed), (⟨0, 0, 0, 0, dz⟩ : Claim)⟩ : Entry)⟩ : Item)), rwB cFd ((readF l).1)]) rfl rfl rfl rfl rfl rfl rfl ⟨⟨⟨rfl, rfl, rfl, by first | omega | exact Nat.le_refl _, by first | omega | exact Nat.le_refl _⟩, trivial⟩, ⟨(emb_rd rfl), trivial⟩, rfl, rfl, rfl⟩ (by kernel_rfl) (by kernel_rfl) ?_
  refine r_move (v := .tuple #[slv 4 0 ((readF l).1.length) ((readF l).1.length), .int .i64 (((readF l).2))]) rfl rfl rfl ?_
  refine r_extract (vs := #[slv 4 0 ((readF l).1.length) ((readF l).1.length), .int .i64 (((readF l).2))]) (v := slv 4 0 ((readF l).1.length) ((readF l).1.length)) rfl rfl rfl rfl ?_
  refine r_extract (vs := #[slv 4 0 ((readF l).1.length) ((readF l).1.length), .int .i64 (((readF l).2))]) (v := .int .i64 (((readF l).2))) rfl rfl rfl rfl ?_
  refine r_assign (v := slv 4 0 ((readF l).1.length) ((readF l).1.length)) rfl rfl rfl ?_
  refine r_assign (v := .int .i64 (((readF l).2))) rfl rfl rfl ?_
  refine r_doneN (x_then (c_seq (c_seq (c_reg ?_))))
  refine r_move (v := slv 4 0 ((readF l).1.length) ((readF l).1.length)) rfl rfl rfl ?_
  refine r_len (p := slv 4 0 ((readF l).1.length) ((readF l).1.length)) (v := .int .i64 ((((readF l).1.length) : Nat) : Int)) rfl rfl rfl rfl ?_
  refine r_move (v := .int .i64 0) rfl rfl rfl ?_
  refine r_doneN (x_then (c_block ?_))
  refine c_loopN (fun x : Nat × Item => match x with | (i, x) => [slv 0 0 l.length c, .func (.func 45) #[] #[], .func (.func 13) #[] #[], dead, dead, dead, pt 1 0, .int .i64 0, pt 2 0, pt 3 0, slv 4 0 ((readF l).1.length) ((readF l).1.length), .int .i64 (((readF l).2)), dead, dead, dead, dead, .tuple #[slv 4 0 ((readF l).1.length) ((readF l).1.length), .int .i64 (((readF l).2))], slv 0 0 l.length c, .tuple #[slv 4 0 ((readF l).1.length) ((readF l).1.length), .int .i64 (((readF l).2))], slv 4 0 ((readF l).1.length) ((readF l).1.length), .int .i64 (((readF l).2)), slv 4 0 ((readF l).1.length) ((readF l).1.length), .int .i64 ((((readF l).1.length) : Nat) : Int), .int .i64 (i : Nat)]) (fun x : Nat × Item => match x with | (i, x) => [rdB l, bxB 110 (itemC (⟨0, (⟨0, 0, 0, ⟨#[]⟩, (⟨(⟨0, 0, 0, dz, 0⟩ : Head), 0, dz⟩ : Signed), (⟨0, 0, 0, 0, dz⟩ : Claim)⟩ : Entry)⟩ : Item)), bxB 110 (itemC x), bxB 110 (itemC (⟨0, (⟨0, 0, 0, ⟨#[]⟩, (⟨(⟨0, 0, 0, dz, 0⟩ : Head), 0, dz⟩ : Signed), (⟨0, 0, 0, 0, dz⟩ : Claim)⟩ : Entry)⟩ : Item)), rwB cFd ((readF l).1)]) (fun x : Nat × Item => match x with | (i, x) => takeIL ((readF l).1.drop i) x = takeIL (readF l).1 ⟨0, ⟨0, 0, 0, ⟨#[]⟩, ⟨⟨0, 0, 0, dz, 0⟩, 0, dz⟩, ⟨0, 0, 0, 0, dz⟩⟩⟩ ∧ i ≤ (readF l).1.length) (fun x : Nat × Item => match x with | (i, x) => (readF l).1.length - i) (0, ⟨0, ⟨0, 0, 0, ⟨#[]⟩, ⟨⟨0, 0, 0, dz, 0⟩, 0, dz⟩, ⟨0, 0, 0, 0, dz⟩⟩⟩) ⟨rfl, Nat.zero_le _⟩ ?_ ?_
  · refine weak_to (n := 5) rfl ?_ (by kernel_rfl) (by kernel_rfl)
    repeat (first | exact trivial | refine ⟨.inl rfl, ?_⟩ | refine ⟨.inr ⟨rfl, rfl⟩, ?_⟩ | refine ⟨.inr ⟨congrArg (Value.int .i64) (by first | omega | (dsimp only; omega)), rfl⟩, ?_⟩)
  rintro ⟨i, x⟩ ⟨hR, hi⟩
  dsimp only at *
  refine c_hole 1 (H' := [rdB l, bxB 110 (itemC (⟨0, (⟨0, 0, 0, ⟨#[]⟩, (⟨(⟨0, 0, 0, dz, 0⟩ : Head), 0, dz⟩ : Signed), (⟨0, 0, 0, 0, dz⟩ : Claim)⟩ : Entry)⟩ : Item)), bxB 110 (itemC x), bxB 110 (itemC (⟨0, (⟨0, 0, 0, ⟨#[]⟩, (⟨(⟨0, 0, 0, dz, 0⟩ : Head), 0, dz⟩ : Signed), (⟨0, 0, 0, 0, dz⟩ : Claim)⟩ : Entry)⟩ : Item)), rwB cFd ((readF l).1), hole]) rfl ?_
  refine c_seq (c_reg ?_)
  by_cases h1 : (i : Nat) < ((((readF l).1.length) : Nat) : Int)
  refine r_bin (v := .bool true) (vx := .int .i64 (i : Nat)) (vy := .int .i64 ((((readF l).1.length) : Nat) : Int)) rfl rfl rfl rfl (lss_t (by omega)) ?_
  refine r_doneN (x_then (c_seq (c_true rfl (c_skip (x_then (c_seq (c_block (c_seq (c_reg ?_)))))))))
  refine r_idxS (b := 4) (o := 0) (j := i * 2) (m := ((readF l).1.length)) (c := ((readF l).1.length)) (sz := 2) (i := (i : Nat)) (k := .i64) rfl rfl rfl rfl rfl (by omega) (by omega) (by omega) ?_
  refine r_load (p := pt 4 (i * 2)) (v := fdV ((((readF l).1)).getD i default)) rfl rfl rfl (load_rw (n := 0) (m := 2) cFd rfl rfl rfl rfl (by omega) (by omega)) ?_
  refine r_alloc (b := bxB 2 (fdC (⟨0, ⟨#[]⟩⟩ : Field))) (nid := 5) (H' := [rdB l, bxB 110 (itemC (⟨0, (⟨0, 0, 0, ⟨#[]⟩, (⟨(⟨0, 0, 0, dz, 0⟩ : Head), 0, dz⟩ : Signed), (⟨0, 0, 0, 0, dz⟩ : Claim)⟩ : Entry)⟩ : Item)), bxB 110 (itemC x), bxB 110 (itemC (⟨0, (⟨0, 0, 0, ⟨#[]⟩, (⟨(⟨0, 0, 0, dz, 0⟩ : Head), 0, dz⟩ : Signed), (⟨0, 0, 0, 0, dz⟩ : Claim)⟩ : Entry)⟩ : Item)), rwB cFd ((readF l).1), bxB 2 (fdC (⟨0, ⟨#[]⟩⟩ : Field))]) rfl rfl (by kernel_rfl) (by kernel_rfl) ?_
  refine r_store (p := pt 5 0) (v := fdV ((((readF l).1)).getD i default)) (b := 5) (blk := bxB 2 (fdC ((((readF l).1)).getD i default))) (H' := [rdB l, bxB 110 (itemC (⟨0, (⟨0, 0, 0, ⟨#[]⟩, (⟨(⟨0, 0, 0, dz, 0⟩ : Head), 0, dz⟩ : Signed), (⟨0, 0, 0, 0, dz⟩ : Claim)⟩ : Entry)⟩ : Item)), bxB 110 (itemC x), bxB 110 (itemC (⟨0, (⟨0, 0, 0, ⟨#[]⟩, (⟨(⟨0, 0, 0, dz, 0⟩ : Head), 0, dz⟩ : Signed), (⟨0, 0, 0, 0, dz⟩ : Claim)⟩ : Entry)⟩ : Item)), rwB cFd ((readF l).1), bxB 2 (fdC ((((readF l).1)).getD i default))]) rfl rfl rfl (by kernel_rfl) (by kernel_rfl) ?_
  refine r_doneN (x_then (c_reg ?_))
  refine r_move (v := .func (.func 45) #[] #[]) rfl rfl rfl ?_
  refine r_load (p := pt 5 0) (v := fdV ((((readF l).1)).getD i default)) rfl rfl rfl (by kernel_rfl) ?_
  refine r_callN (e := [some (2, 0)]) (nid := 0) (takeI_ok (G := G) x ((((readF l).1)).getD i default) (by have := readF_sz l i (by omega); omega)) (vals := [pt 2 0, fdV ((((readF l).1)).getD i default)]) (v := .tuple #[]) (H' := [rdB l, bxB 110 (itemC (⟨0, (⟨0, 0, 0, ⟨#[]⟩, (⟨(⟨0, 0, 0, dz, 0⟩ : Head), 0, dz⟩ : Signed), (⟨0, 0, 0, 0, dz⟩ : Claim)⟩ : Entry)⟩ : Item)), bxB 110 (itemC (takeI x ((((readF l).1)).getD i default))), bxB 110 (itemC (⟨0, (⟨0, 0, 0, ⟨#[]⟩, (⟨(⟨0, 0, 0, dz, 0⟩ : Head), 0, dz⟩ : Signed), (⟨0, 0, 0, 0, dz⟩ : Claim)⟩ : Entry)⟩ : Item)), rwB cFd ((readF l).1), bxB 2 (fdC ((((readF l).1)).getD i default))]) rfl rfl rfl rfl rfl rfl rfl ⟨⟨⟨rfl, rfl⟩, rfl, trivial⟩, ⟨(emb_wr rfl rfl rfl rfl), trivial⟩, rfl, rfl, rfl⟩ (by kernel_rfl) (by kernel_rfl) ?_
  refine r_doneN (x_blockN (x_then (c_reg ?_)))
  refine r_bin (v := .int .i64 ((i : Nat) + 1)) (vx := .int .i64 (i : Nat)) (vy := .int .i64 1) rfl rfl rfl rfl (bin_add (by omega) (by omega) (by omega)) ?_
  refine r_move (v := .int .i64 ((i : Nat) + 1)) rfl rfl rfl ?_
  refine r_doneN ?_
  refine x_round ⟨((i + 1), (takeI x ((((readF l).1)).getD i default))), ⟨takeIL_step hR (by omega), by dsimp only; omega⟩, by show (readF l).1.length - (i + 1) < (readF l).1.length - i; omega, ?_⟩
  refine weak_to (n := 5) rfl ?_ (by kernel_rfl) (by kernel_rfl)
  repeat (first | exact trivial | refine ⟨.inl rfl, ?_⟩ | refine ⟨.inr ⟨rfl, rfl⟩, ?_⟩ | refine ⟨.inr ⟨congrArg (Value.int .i64) (by first | omega | (dsimp only; omega)), rfl⟩, ?_⟩)
  refine r_bin (v := .bool false) (vx := .int .i64 (i : Nat)) (vy := .int .i64 ((((readF l).1.length) : Nat) : Int)) rfl rfl rfl rfl (lss_f (by omega)) ?_
  refine r_doneN (x_then (c_seq (c_false rfl (c_exit (x_thenE (x_leaveE (x_block rfl (x_then (c_seq (c_seq (c_reg ?_)))))))))))
  refine r_move (v := .func (.func 13) #[] #[]) rfl rfl rfl ?_
  refine r_load (p := pt 2 0) (v := itemV x) rfl rfl rfl (by kernel_rfl) ?_
  refine r_callN (e := []) (nid := 5) (PutItem_ok (G := G) x) (vals := [itemV x]) (v := .tuple #[slv 5 0 ((putI x).1.length) ((putI x).1.length), .int .i64 (((putI x).2))]) (H' := [rdB l, bxB 110 (itemC (⟨0, (⟨0, 0, 0, ⟨#[]⟩, (⟨(⟨0, 0, 0, dz, 0⟩ : Head), 0, dz⟩ : Signed), (⟨0, 0, 0, 0, dz⟩ : Claim)⟩ : Entry)⟩ : Item)), bxB 110 (itemC x), bxB 110 (itemC (⟨0, (⟨0, 0, 0, ⟨#[]⟩, (⟨(⟨0, 0, 0, dz, 0⟩ : Head), 0, dz⟩ : Signed), (⟨0, 0, 0, 0, dz⟩ : Claim)⟩ : Entry)⟩ : Item)), rwB cFd ((readF l).1), rowB ((putI x).1)]) rfl rfl rfl rfl rfl rfl rfl ⟨⟨rfl, trivial⟩, trivial, rfl, rfl, rfl⟩ (by kernel_rfl) (by kernel_rfl) ?_
  refine r_move (v := .tuple #[slv 5 0 ((putI x).1.length) ((putI x).1.length), .int .i64 (((putI x).2))]) rfl rfl rfl ?_
  refine r_extract (vs := #[slv 5 0 ((putI x).1.length) ((putI x).1.length), .int .i64 (((putI x).2))]) (v := slv 5 0 ((putI x).1.length) ((putI x).1.length)) rfl rfl rfl rfl ?_
  refine r_extract (vs := #[slv 5 0 ((putI x).1.length) ((putI x).1.length), .int .i64 (((putI x).2))]) (v := .int .i64 (((putI x).2))) rfl rfl rfl rfl ?_
  refine r_assign (v := slv 5 0 ((putI x).1.length) ((putI x).1.length)) rfl rfl rfl ?_
  refine r_assign (v := .int .i64 (((putI x).2))) rfl rfl rfl ?_
  refine r_doneN (x_then (c_seq (c_reg ?_)))
  refine r_move (v := .int .i64 (((readF l).2))) rfl rfl rfl ?_
  by_cases h2 : (((readF l).2)) = 0
  refine r_bin (v := .bool true) (vx := .int .i64 (((readF l).2))) (vy := .int .i64 0) rfl rfl rfl rfl (eql_t (by omega)) ?_
  refine r_move (v := .bool true) rfl rfl rfl ?_
  refine r_move (v := .int .i64 (((putI x).2))) rfl rfl rfl ?_
  by_cases h3 : (((putI x).2)) = 0
  refine r_bin (v := .bool true) (vx := .int .i64 (((putI x).2))) (vy := .int .i64 0) rfl rfl rfl rfl (eql_t (by omega)) ?_
  refine r_pick (v := .bool true) rfl rfl rfl ?_
  refine r_move (v := .bool true) rfl rfl rfl ?_
  refine r_move (v := slv 5 0 ((putI x).1.length) ((putI x).1.length)) rfl rfl rfl ?_
  refine r_move (v := slv 0 0 l.length c) rfl rfl rfl ?_
  refine r_callN (e := [some (5, 0), some (0, 0)]) (nid := 0) (bytesEq_ok (G := G) ((putI x).1) l ((putI x).1.length) ((putI x).1.length) l.length c rfl rfl (by omega) (by omega)) (vals := [slv 5 0 ((putI x).1.length) ((putI x).1.length), slv 0 0 l.length c]) (v := .bool (sameT (strOf ((putI x).1)) (strOf l))) (H' := [rdB l, bxB 110 (itemC (⟨0, (⟨0, 0, 0, ⟨#[]⟩, (⟨(⟨0, 0, 0, dz, 0⟩ : Head), 0, dz⟩ : Signed), (⟨0, 0, 0, 0, dz⟩ : Claim)⟩ : Entry)⟩ : Item)), bxB 110 (itemC x), bxB 110 (itemC (⟨0, (⟨0, 0, 0, ⟨#[]⟩, (⟨(⟨0, 0, 0, dz, 0⟩ : Head), 0, dz⟩ : Signed), (⟨0, 0, 0, 0, dz⟩ : Claim)⟩ : Entry)⟩ : Item)), rwB cFd ((readF l).1), rowB ((putI x).1)]) rfl rfl rfl rfl rfl rfl rfl ⟨⟨⟨rfl, rfl, rfl, by first | omega | exact Nat.le_refl _, by first | omega | exact Nat.le_refl _⟩, ⟨rfl, rfl, rfl, by first | omega | exact Nat.le_refl _, by first | omega | exact Nat.le_refl _⟩, trivial⟩, ⟨(emb_rdW rfl), (emb_rd rfl), trivial⟩, rfl, rfl, rfl⟩ rfl (by kernel_rfl) ?_
  refine r_pick (v := .bool (sameT (strOf ((putI x).1)) (strOf l))) rfl rfl rfl ?_
  refine r_doneN (x_then ?_)
  rcases Bool.eq_false_or_eq_true (sameT (strOf ((putI x).1)) (strOf l)) with h4 | h4
  refine c_true (congrArg Value.bool h4) ?_
  refine c_seq (c_reg ?_)
  refine r_load (p := pt 2 0) (v := itemV x) rfl rfl rfl (by kernel_rfl) ?_
  refine r_store (p := pt 1 0) (v := itemV x) (b := 1) (blk := bxB 110 (itemC x)) (H' := [rdB l, bxB 110 (itemC x), bxB 110 (itemC x), bxB 110 (itemC (⟨0, (⟨0, 0, 0, ⟨#[]⟩, (⟨(⟨0, 0, 0, dz, 0⟩ : Head), 0, dz⟩ : Signed), (⟨0, 0, 0, 0, dz⟩ : Claim)⟩ : Entry)⟩ : Item)), rwB cFd ((readF l).1), rowB ((putI x).1)]) rfl rfl rfl (by kernel_rfl) (by kernel_rfl) ?_
  refine r_assign (v := .int .i64 0) rfl rfl rfl ?_
  refine r_doneN (x_then (c_ret (x_thenR (x_end ?_))))
  have hx : x = takeIL (readF l).1 ⟨0, ⟨0, 0, 0, ⟨#[]⟩, ⟨⟨0, 0, 0, dz, 0⟩, 0, dz⟩, ⟨0, 0, 0, 0, dz⟩⟩⟩ := by rw [← hR, List.drop_of_length_le (by omega)]; rfl
  rw [show gotI l = (x, 0) from by unfold gotI; rw [← hx]; exact if_pos ⟨by omega, by omega, by assumption⟩]
  exact end_same (v := .tuple #[itemV x, .int .i64 0]) (by kernel_rfl) rfl rfl (by simp [keptB, rdB]) ⟨(argV_p (by kernel_rfl) rfl), rfl, trivial⟩
  refine c_false (congrArg Value.bool h4) ?_
  refine c_skip (x_then (c_seq (c_reg ?_)))
  refine r_load (p := pt 3 0) (v := itemV (⟨0, (⟨0, 0, 0, ⟨#[]⟩, (⟨(⟨0, 0, 0, dz, 0⟩ : Head), 0, dz⟩ : Signed), (⟨0, 0, 0, 0, dz⟩ : Claim)⟩ : Entry)⟩ : Item)) rfl rfl rfl (by kernel_rfl) ?_
  refine r_store (p := pt 1 0) (v := itemV (⟨0, (⟨0, 0, 0, ⟨#[]⟩, (⟨(⟨0, 0, 0, dz, 0⟩ : Head), 0, dz⟩ : Signed), (⟨0, 0, 0, 0, dz⟩ : Claim)⟩ : Entry)⟩ : Item)) (b := 1) (blk := bxB 110 (itemC (⟨0, (⟨0, 0, 0, ⟨#[]⟩, (⟨(⟨0, 0, 0, dz, 0⟩ : Head), 0, dz⟩ : Signed), (⟨0, 0, 0, 0, dz⟩ : Claim)⟩ : Entry)⟩ : Item))) (H' := [rdB l, bxB 110 (itemC (⟨0, (⟨0, 0, 0, ⟨#[]⟩, (⟨(⟨0, 0, 0, dz, 0⟩ : Head), 0, dz⟩ : Signed), (⟨0, 0, 0, 0, dz⟩ : Claim)⟩ : Entry)⟩ : Item)), bxB 110 (itemC x), bxB 110 (itemC (⟨0, (⟨0, 0, 0, ⟨#[]⟩, (⟨(⟨0, 0, 0, dz, 0⟩ : Head), 0, dz⟩ : Signed), (⟨0, 0, 0, 0, dz⟩ : Claim)⟩ : Entry)⟩ : Item)), rwB cFd ((readF l).1), rowB ((putI x).1)]) rfl rfl rfl (by kernel_rfl) (by kernel_rfl) ?_
  refine r_assign (v := .int .i64 60) rfl rfl rfl ?_
  refine r_doneN (x_then (c_ret (x_end ?_)))
  have hx : x = takeIL (readF l).1 ⟨0, ⟨0, 0, 0, ⟨#[]⟩, ⟨⟨0, 0, 0, dz, 0⟩, 0, dz⟩, ⟨0, 0, 0, 0, dz⟩⟩⟩ := by rw [← hR, List.drop_of_length_le (by omega)]; rfl
  rw [show gotI l = (⟨0, ⟨0, 0, 0, ⟨#[]⟩, ⟨⟨0, 0, 0, dz, 0⟩, 0, dz⟩, ⟨0, 0, 0, 0, dz⟩⟩⟩, 60) from by unfold gotI; rw [← hx]; exact if_neg (fun q => by have q1 := q.1; have q2 := q.2.1; have q3 := q.2.2; first | omega | (simp_all; done))]
  exact end_same (v := .tuple #[itemV (⟨0, (⟨0, 0, 0, ⟨#[]⟩, (⟨(⟨0, 0, 0, dz, 0⟩ : Head), 0, dz⟩ : Signed), (⟨0, 0, 0, 0, dz⟩ : Claim)⟩ : Entry)⟩ : Item), .int .i64 60]) (by kernel_rfl) rfl rfl (by simp [keptB, rdB]) ⟨(argV_p (by kernel_rfl) rfl), rfl, trivial⟩
  refine r_bin (v := .bool false) (vx := .int .i64 (((putI x).2))) (vy := .int .i64 0) rfl rfl rfl rfl (eql_f (by omega)) ?_
  refine r_pick (v := .bool false) rfl rfl rfl ?_
  refine r_move (v := .bool false) rfl rfl rfl ?_
  refine r_skip rfl rfl (r_skip rfl rfl (r_skip rfl rfl ?_))
  refine r_pick (v := .bool false) rfl rfl rfl ?_
  refine r_doneN (x_then (c_false rfl (c_skip (x_then (c_seq (c_reg ?_))))))
  refine r_load (p := pt 3 0) (v := itemV (⟨0, (⟨0, 0, 0, ⟨#[]⟩, (⟨(⟨0, 0, 0, dz, 0⟩ : Head), 0, dz⟩ : Signed), (⟨0, 0, 0, 0, dz⟩ : Claim)⟩ : Entry)⟩ : Item)) rfl rfl rfl (by kernel_rfl) ?_
  refine r_store (p := pt 1 0) (v := itemV (⟨0, (⟨0, 0, 0, ⟨#[]⟩, (⟨(⟨0, 0, 0, dz, 0⟩ : Head), 0, dz⟩ : Signed), (⟨0, 0, 0, 0, dz⟩ : Claim)⟩ : Entry)⟩ : Item)) (b := 1) (blk := bxB 110 (itemC (⟨0, (⟨0, 0, 0, ⟨#[]⟩, (⟨(⟨0, 0, 0, dz, 0⟩ : Head), 0, dz⟩ : Signed), (⟨0, 0, 0, 0, dz⟩ : Claim)⟩ : Entry)⟩ : Item))) (H' := [rdB l, bxB 110 (itemC (⟨0, (⟨0, 0, 0, ⟨#[]⟩, (⟨(⟨0, 0, 0, dz, 0⟩ : Head), 0, dz⟩ : Signed), (⟨0, 0, 0, 0, dz⟩ : Claim)⟩ : Entry)⟩ : Item)), bxB 110 (itemC x), bxB 110 (itemC (⟨0, (⟨0, 0, 0, ⟨#[]⟩, (⟨(⟨0, 0, 0, dz, 0⟩ : Head), 0, dz⟩ : Signed), (⟨0, 0, 0, 0, dz⟩ : Claim)⟩ : Entry)⟩ : Item)), rwB cFd ((readF l).1), rowB ((putI x).1)]) rfl rfl rfl (by kernel_rfl) (by kernel_rfl) ?_
  refine r_assign (v := .int .i64 60) rfl rfl rfl ?_
  refine r_doneN (x_then (c_ret (x_end ?_)))
  have hx : x = takeIL (readF l).1 ⟨0, ⟨0, 0, 0, ⟨#[]⟩, ⟨⟨0, 0, 0, dz, 0⟩, 0, dz⟩, ⟨0, 0, 0, 0, dz⟩⟩⟩ := by rw [← hR, List.drop_of_length_le (by omega)]; rfl
  rw [show gotI l = (⟨0, ⟨0, 0, 0, ⟨#[]⟩, ⟨⟨0, 0, 0, dz, 0⟩, 0, dz⟩, ⟨0, 0, 0, 0, dz⟩⟩⟩, 60) from by unfold gotI; rw [← hx]; exact if_neg (fun q => by have q1 := q.1; have q2 := q.2.1; have q3 := q.2.2; first | omega | (simp_all; done))]
  exact end_same (v := .tuple #[itemV (⟨0, (⟨0, 0, 0, ⟨#[]⟩, (⟨(⟨0, 0, 0, dz, 0⟩ : Head), 0, dz⟩ : Signed), (⟨0, 0, 0, 0, dz⟩ : Claim)⟩ : Entry)⟩ : Item), .int .i64 60]) (by kernel_rfl) rfl rfl (by simp [keptB, rdB]) ⟨(argV_p (by kernel_rfl) rfl), rfl, trivial⟩
  refine r_bin (v := .bool false) (vx := .int .i64 (((readF l).2))) (vy := .int .i64 0) rfl rfl rfl rfl (eql_f (by omega)) ?_
  refine r_move (v := .bool false) rfl rfl rfl ?_
  refine r_skip rfl rfl (r_skip rfl rfl ?_)
  refine r_pick (v := .bool false) rfl rfl rfl ?_
  refine r_move (v := .bool false) rfl rfl rfl ?_
  refine r_skip rfl rfl (r_skip rfl rfl (r_skip rfl rfl ?_))
  refine r_pick (v := .bool false) rfl rfl rfl ?_
  refine r_doneN (x_then (c_false rfl (c_skip (x_then (c_seq (c_reg ?_))))))
  refine r_load (p := pt 3 0) (v := itemV (⟨0, (⟨0, 0, 0, ⟨#[]⟩, (⟨(⟨0, 0, 0, dz, 0⟩ : Head), 0, dz⟩ : Signed), (⟨0, 0, 0, 0, dz⟩ : Claim)⟩ : Entry)⟩ : Item)) rfl rfl rfl (by kernel_rfl) ?_
  refine r_store (p := pt 1 0) (v := itemV (⟨0, (⟨0, 0, 0, ⟨#[]⟩, (⟨(⟨0, 0, 0, dz, 0⟩ : Head), 0, dz⟩ : Signed), (⟨0, 0, 0, 0, dz⟩ : Claim)⟩ : Entry)⟩ : Item)) (b := 1) (blk := bxB 110 (itemC (⟨0, (⟨0, 0, 0, ⟨#[]⟩, (⟨(⟨0, 0, 0, dz, 0⟩ : Head), 0, dz⟩ : Signed), (⟨0, 0, 0, 0, dz⟩ : Claim)⟩ : Entry)⟩ : Item))) (H' := [rdB l, bxB 110 (itemC (⟨0, (⟨0, 0, 0, ⟨#[]⟩, (⟨(⟨0, 0, 0, dz, 0⟩ : Head), 0, dz⟩ : Signed), (⟨0, 0, 0, 0, dz⟩ : Claim)⟩ : Entry)⟩ : Item)), bxB 110 (itemC x), bxB 110 (itemC (⟨0, (⟨0, 0, 0, ⟨#[]⟩, (⟨(⟨0, 0, 0, dz, 0⟩ : Head), 0, dz⟩ : Signed), (⟨0, 0, 0, 0, dz⟩ : Claim)⟩ : Entry)⟩ : Item)), rwB cFd ((readF l).1), rowB ((putI x).1)]) rfl rfl rfl (by kernel_rfl) (by kernel_rfl) ?_
  refine r_assign (v := .int .i64 60) rfl rfl rfl ?_
  refine r_doneN (x_then (c_ret (x_end ?_)))
  have hx : x = takeIL (readF l).1 ⟨0, ⟨0, 0, 0, ⟨#[]⟩, ⟨⟨0, 0, 0, dz, 0⟩, 0, dz⟩, ⟨0, 0, 0, 0, dz⟩⟩⟩ := by rw [← hR, List.drop_of_length_le (by omega)]; rfl
  rw [show gotI l = (⟨0, ⟨0, 0, 0, ⟨#[]⟩, ⟨⟨0, 0, 0, dz, 0⟩, 0, dz⟩, ⟨0, 0, 0, 0, dz⟩⟩⟩, 60) from by unfold gotI; rw [← hx]; exact if_neg (fun q => by have q1 := q.1; have q2 := q.2.1; have q3 := q.2.2; first | omega | (simp_all; done))]
  exact end_same (v := .tuple #[itemV (⟨0, (⟨0, 0, 0, ⟨#[]⟩, (⟨(⟨0, 0, 0, dz, 0⟩ : Head), 0, dz⟩ : Signed), (⟨0, 0, 0, 0, dz⟩ : Claim)⟩ : Entry)⟩ : Item), .int .i64 60]) (by kernel_rfl) rfl rfl (by simp [keptB, rdB]) ⟨(argV_p (by kernel_rfl) rfl), rfl, trivial⟩
theorem GetItem_ok (l : Bs) (c : Nat) (hc : l.length ≤ c) (hb : l.length ≤ 1048576) : CallL Tryd.prog G 16 [slv 0 0 l.length c] [rdB l] (.tuple #[itemV (gotI l).1, .int .i64 (gotI l).2]) [rdB l] := by
  refine walk (fn := Tryd.f16) (nt := 8) rfl rfl rfl rfl ?_
  refine c_hole 1 (H' := [rdB l, hole]) rfl ?_
  refine c_seq (c_reg ?_)
  refine r_alloc (b := bxB 110 (itemC (⟨0, (⟨0, 0, 0, ⟨#[]⟩, (⟨(⟨0, 0, 0, dz, 0⟩ : Head), 0, dz⟩ : Signed), (⟨0, 0, 0, 0, dz⟩ : Claim)⟩ : Entry)⟩ : Item))) (nid := 1) (H' := [rdB l, bxB 110 (itemC (⟨0, (⟨0, 0, 0, ⟨#[]⟩, (⟨(⟨0, 0, 0, dz, 0⟩ : Head), 0, dz⟩ : Signed), (⟨0, 0, 0, 0, dz⟩ : Claim)⟩ : Entry)⟩ : Item))]) rfl rfl (by kernel_rfl) (by kernel_rfl) ?_
  refine r_assign (v := .int .i64 0) rfl rfl rfl ?_
  refine r_doneN (x_then (c_seq (c_reg ?_)))
  refine r_move (v := slv 0 0 l.length c) rfl rfl rfl ?_
  refine r_callN (e := [some (0, 0)]) (nid := 0) (gotI_ok (G := G) l c (by omega) (by omega)) (vals := [slv 0 0 l.length c, .func (.func 45) #[] #[], .func (.func 13) #[] #[]]) (v := .tuple #[itemV ((gotI l).1), .int .i64 (((gotI l).2))]) (H' := [rdB l, bxB 110 (itemC (⟨0, (⟨0, 0, 0, ⟨#[]⟩, (⟨(⟨0, 0, 0, dz, 0⟩ : Head), 0, dz⟩ : Signed), (⟨0, 0, 0, 0, dz⟩ : Claim)⟩ : Entry)⟩ : Item))]) rfl rfl rfl rfl rfl rfl rfl ⟨⟨⟨rfl, rfl, rfl, by first | omega | exact Nat.le_refl _, by first | omega | exact Nat.le_refl _⟩, ⟨by simp [renC, renC0], by kernel_rfl⟩, ⟨by simp [renC, renC0], by kernel_rfl⟩, trivial⟩, ⟨(emb_rd rfl), trivial⟩, rfl, rfl, rfl⟩ (by kernel_rfl) (by kernel_rfl) ?_
  refine r_extract (vs := #[itemV ((gotI l).1), .int .i64 (((gotI l).2))]) (v := itemV ((gotI l).1)) rfl rfl rfl rfl ?_
  refine r_extract (vs := #[itemV ((gotI l).1), .int .i64 (((gotI l).2))]) (v := .int .i64 (((gotI l).2))) rfl rfl rfl rfl ?_
  refine r_store (p := pt 1 0) (v := itemV ((gotI l).1)) (b := 1) (blk := bxB 110 (itemC ((gotI l).1))) (H' := [rdB l, bxB 110 (itemC ((gotI l).1))]) rfl rfl rfl (by kernel_rfl) (by kernel_rfl) ?_
  refine r_assign (v := .int .i64 (((gotI l).2))) rfl rfl rfl ?_
  refine r_doneN (x_then (c_ret (x_end ?_)))
  exact end_same (v := .tuple #[itemV ((gotI l).1), .int .i64 (((gotI l).2))]) (by kernel_rfl) rfl rfl (by simp [keptB, rdB]) ⟨(argV_p (by kernel_rfl) rfl), rfl, trivial⟩
end Go.Flat
