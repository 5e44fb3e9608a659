/- Walks and plain laws: what each theorem says, within the bounds that it names. -/
import Derived.Test.YtgmnjggeffdjhaaDoorP1
set_option linter.unusedVariables false
set_option linter.unusedSimpArgs false
set_option maxRecDepth 20000
namespace Go.Flat
open Go.Proofs
variable {G : Glob}
def zero1 : ByteArray := ⟨#[0]⟩
theorem putSF_len (s : Signed) : (putSF s).1.length ≤ 1000 := by
  by_cases hm : mayS s
  · rw [putSF_pos hm]
    have := layF_len (rowF 0 (signedL s)) 0 []
    have h1 := numS_size s.node
    have h2 := bytesH_len s.head
    simp only [signedL, rowF, sumF, strOf_size, dgL_len, List.length_nil] at this
    show (layF (rowF 0 (signedL s)) 0 []).1.length ≤ 1000
    simp only [signedL, rowF]
    omega
  · rw [putSF_neg hm]; exact Nat.zero_le _
def entF (e : Entry) : List Field := if e.kind = 1 then [⟨1, (numS e.kind).1⟩, ⟨2, (numS e.client).1⟩, ⟨3, (numS e.seq).1⟩, ⟨4, e.text⟩] else if e.kind = 2 then [⟨1, (numS e.kind).1⟩, ⟨5, strOf (putSF e.head).1⟩] else [⟨1, (numS e.kind).1⟩, ⟨6, strOf (putC e.claim).1⟩]
theorem right_kind {e : Entry} (h : rightE e) : 1 ≤ e.kind ∧ e.kind ≤ 3 := by
  rcases h with q | q | q <;> have := q.1 <;> omega
theorem right_user {e : Entry} (h : rightE e) (hk : e.kind = 1) : (1 ≤ e.client ∧ e.client ≤ 3) ∧ (1 ≤ e.seq ∧ e.seq ≤ 1000000) ∧ e.text.size ≤ 200 := by
  rcases h with q | q | q
  · exact ⟨⟨q.2.1, q.2.2.1⟩, ⟨q.2.2.2.1, q.2.2.2.2.1⟩, q.2.2.2.2.2.1⟩
  · have := q.1; omega
  · have := q.1; omega
theorem lay2 (a b : Field) (ha : 0 < a.tag) (hab : a.tag < b.tag) (hb : b.tag ≤ 255) (h1 : a.data.size ≤ 65536) (h2 : b.data.size ≤ 65536) : (layF [a, b] 0 []).2 = 0 := by
  have ea : mayE a 0 = 0 := by unfold mayE; rw [if_neg (by omega), if_neg (by omega), if_neg (by omega)]
  have eb : mayE b a.tag = 0 := by unfold mayE; rw [if_neg (by omega), if_neg (by omega), if_neg (by omega)]
  rw [layF, if_pos ea, layF, if_pos eb, layF]
theorem entF_ok {e : Entry} (h : rightE e) : (layF (entF e) 0 []).2 = 0 := by
  have hk := right_kind h
  have n1 := numS_size e.kind
  unfold entF
  split
  · rename_i h1
    have hu := right_user h h1
    have n2 := numS_size e.client
    have n3 := numS_size e.seq
    have h := layF_rowX [(numS e.kind).1, (numS e.client).1, (numS e.seq).1, e.text] 0 [] (by simp) (by
      intro x hx
      simp only [List.mem_cons, List.not_mem_nil, or_false] at hx
      rcases hx with rfl | rfl | rfl | rfl <;> omega)
    show (layF (rowF 0 [(numS e.kind).1, (numS e.client).1, (numS e.seq).1, e.text]) ((0 : Nat) : Int) []).2 = 0
    rw [h]
  · split
    · exact lay2 _ _ (by show (0 : Int) < 1; decide) (by show (1 : Int) < 5; decide) (by show (5 : Int) ≤ 255; decide) (by show (numS e.kind).1.size ≤ 65536; omega) (by show (strOf (putSF e.head).1).size ≤ 65536; rw [strOf_size]; have := putSF_len e.head; omega)
    · exact lay2 _ _ (by show (0 : Int) < 1; decide) (by show (1 : Int) < 6; decide) (by show (6 : Int) ≤ 255; decide) (by show (numS e.kind).1.size ≤ 65536; omega) (by show (strOf (putC e.claim).1).size ≤ 65536; rw [strOf_size]; have := putC_len e.claim; omega)
def putE (e : Entry) : Bs × Int := if rightE e then ((layF (entF e) 0 []).1, 0) else ([], 60)
theorem putE_0 {e : Entry} (h : rightE e) : (putE e).2 = 0 := by rw [show putE e = _ from if_pos h]
theorem putE_1 {e : Entry} (h : (putE e).2 = 0) : rightE e := by
  refine Decidable.byContradiction fun q => ?_
  rw [show putE e = ([], 60) from if_neg q] at h; exact absurd h (by decide)
theorem putE_len (e : Entry) : (putE e).1.length ≤ 2000 := by
  by_cases h : rightE e
  · rw [show putE e = _ from if_pos h]
    show (layF (entF e) 0 []).1.length ≤ 2000
    have h1 := layF_len (entF e) 0 []
    have n1 := numS_size e.kind
    have n2 := numS_size e.client
    have n3 := numS_size e.seq
    have n4 := putSF_len e.head
    have n5 := putC_len e.claim
    have h2 : sumF (entF e) ≤ 2000 := by
      unfold entF
      split
      · have := (right_user h (by assumption)).2.2
        simp only [sumF]; omega
      · split
        · simp only [sumF, strOf_size]; omega
        · simp only [sumF, strOf_size]; omega
    simp only [List.length_nil] at h1
    omega
  · rw [show putE e = ([], 60) from if_neg h]; exact Nat.zero_le _
def itemF (x : Item) : List Field := [⟨1, (numS x.epoch).1⟩, ⟨2, strOf (putE x.entry).1⟩]
theorem itemF_ok (x : Item) : (layF (itemF x) 0 []).2 = 0 := by
  have n1 := numS_size x.epoch
  have n2 := putE_len x.entry
  exact lay2 _ _ (by show (0 : Int) < 1; decide) (by show (1 : Int) < 2; decide) (by show (2 : Int) ≤ 255; decide) (by show (numS x.epoch).1.size ≤ 65536; omega) (by show (strOf (putE x.entry).1).size ≤ 65536; rw [strOf_size]; omega)
def putI (x : Item) : Bs × Int := if rightI x then ((layF (itemF x) 0 []).1, 0) else ([], 60)
theorem putI_0 {x : Item} (h : rightI x) : (putI x).2 = 0 := by rw [show putI x = _ from if_pos h]
theorem putI_1 {x : Item} (h : (putI x).2 = 0) : rightI x := by
  refine Decidable.byContradiction fun q => ?_
  rw [show putI x = ([], 60) from if_neg q] at h; exact absurd h (by decide)
theorem putI_2 {x : Item} (h : (putI x).2 ≠ 0) : (putI x).2 = 60 := by
  by_cases q : rightI x
  · exact absurd (putI_0 q) h
  · rw [show putI x = ([], 60) from if_neg q]
theorem putI_len (x : Item) : (putI x).1.length ≤ 2100 := by
  unfold putI
  split
  · have h1 := layF_len (itemF x) 0 []
    have n1 := numS_size x.epoch
    have n2 := putE_len x.entry
    simp only [itemF, sumF, strOf_size, List.length_nil] at h1
    show (layF (itemF x) 0 []).1.length ≤ 2100
    simp only [itemF]; omega
  · exact Nat.zero_le _
def lfT (kk : Nat → BitVec 32) (s : ByteArray) : D := shaOf kk (msgOf [zero1, s])
def leafI (kk : Nat → BitVec 32) (x : Item) : D × Int := if rightI x then (lfT kk (strOf (putI x).1), 0) else (dz, 60)
theorem EPut_ok (e : Entry) : CallL Tryd.prog G 118 [entV e] [] (.tuple #[slv 0 0 (putE e).1.length (putE e).1.length, .int .i64 (putE e).2]) [rowB (putE e).1] := by
  refine walk (fn := Tryd.f118) (nt := 57) rfl rfl rfl rfl ?_
  refine c_hole 5 (H' := [hole, hole, hole, hole, hole]) rfl ?_
  refine c_seq (c_reg ?_)
  refine r_box (v := entV e) (b := bxB 109 (entC e)) (nid := 0) (H' := [bxB 109 (entC e), hole, hole, hole, hole]) rfl rfl rfl (by kernel_rfl) (by kernel_rfl) ?_
  refine r_assign (v := .slice none 0 0) rfl rfl rfl ?_
  refine r_assign (v := .int .i64 0) rfl rfl rfl ?_
  refine r_doneN (x_then (c_seq (c_seq (c_reg ?_))))
  refine r_load (p := pt 0 0) (v := entV e) rfl rfl rfl (by kernel_rfl) ?_
  refine r_callP (EntCheck_ok (G := G) e) (vals := [entV e]) (res' := .int .i64 ((chkE e))) rfl rfl rfl rfl rfl rfl ?_
  refine r_assign (v := .int .i64 ((chkE e))) rfl rfl rfl ?_
  refine r_doneN (x_then (c_seq (c_reg ?_)))
  refine r_move (v := .int .i64 ((chkE e))) rfl rfl rfl ?_
  by_cases h1 : ((chkE e)) ≠ 0
  refine r_bin (v := .bool true) (vx := .int .i64 ((chkE e))) (vy := .int .i64 0) rfl rfl rfl rfl (neq_t (by omega)) ?_
  refine r_doneN (x_then (c_true rfl (c_seq (c_reg ?_))))
  refine r_move (v := .int .i64 ((chkE e))) rfl rfl rfl ?_
  refine r_assign (v := .slice none 0 0) rfl rfl rfl ?_
  refine r_assign (v := .int .i64 ((chkE e))) rfl rfl rfl ?_
  refine r_doneN (x_then ?_)
  refine c_weak (Weak.nilTmp (i := 2) (b := 1) true 1 rfl (by decide) rfl) ?_
  refine c_ret (x_thenR (x_end ?_))
  rw [show putE e = ([], chkE e) from by rw [show chkE e = 60 from if_neg (chkE_neg (by omega))]; exact if_neg (chkE_neg (by omega))]
  exact end_map [1] (v := .tuple #[slv 1 0 0 0, .int .i64 ((chkE e))]) rfl (by kernel_rfl) rfl rfl (by decide) (by simp [keptB, rowB]) ⟨⟨rfl, rfl, rfl, by first | omega | exact Nat.le_refl _ | exact Nat.zero_le _ | (dsimp only; omega), by first | omega | exact Nat.le_refl _ | exact Nat.zero_le _ | (dsimp only; omega)⟩, rfl, trivial⟩
  refine r_bin (v := .bool false) (vx := .int .i64 ((chkE e))) (vy := .int .i64 0) rfl rfl rfl rfl (neq_f (by omega)) ?_
  refine r_doneN (x_then (c_false rfl (c_skip (x_then (c_seq (c_reg ?_))))))
  refine r_alloc (b := rfB (.slice none 0 0)) (nid := 1) (H' := [bxB 109 (entC e), rfB (.slice none 0 0), hole, hole, hole]) rfl rfl (by kernel_rfl) (by kernel_rfl) ?_
  refine r_doneN (x_then (c_seq ?_))
  have hr := chkE_pos (e := e) (by omega)
  have hk := right_kind hr
  refine c_weak (Weak.nilCell (k := 1) (j := 0) (b := 2) true 2 rfl (by decide) rfl (by show 0 < 1; decide) rfl rfl) ?_
  refine c_reg ?_
  refine r_fieldAddr (b := 0) (o := 0) (n := 0) (o' := 0) rfl rfl rfl rfl rfl ?_
  refine r_load (p := pt 0 0) (v := .int .i64 e.kind) rfl rfl rfl (by kernel_rfl) ?_
  refine r_call (e := [some (1, 0), some (2, 0)]) (nid := 0) (fs_n_ok (G := G) [] 0 1 e.kind rfl (by omega) (by omega) (by omega)) (vals := [pt 1 0, .int .i64 1, .int .i64 e.kind]) (v := .tuple #[]) (H' := [bxB 109 (entC e), rfB (slv 2 0 1 1), rwB cFd ([] ++ [(⟨1, (numS e.kind).1⟩ : Field)]), hole, hole]) rfl rfl rfl rfl rfl rfl ⟨⟨⟨rfl, rfl⟩, rfl, rfl, trivial⟩, ⟨(emb_wr rfl rfl rfl rfl), (emb_wr rfl rfl rfl rfl), trivial⟩, rfl, rfl, rfl, Nat.le_refl _⟩ (by kernel_rfl) rfl (by kernel_rfl) ?_
  refine r_doneN (x_then (c_seq (c_seq (c_reg ?_))))
  refine r_fieldAddr (b := 0) (o := 0) (n := 0) (o' := 0) rfl rfl rfl rfl rfl ?_
  refine r_load (p := pt 0 0) (v := .int .i64 e.kind) rfl rfl rfl (by kernel_rfl) ?_
  refine r_doneN (x_then (c_block (c_seq (c_reg ?_))))
  by_cases h2 : e.kind = 1
  refine r_bin (v := .bool true) (vx := .int .i64 e.kind) (vy := .int .i64 1) rfl rfl rfl rfl (eql_t (by omega)) ?_
  refine r_assign (v := .bool true) rfl rfl rfl ?_
  refine r_doneN (x_then (c_true rfl (c_seq ?_)))
  have hu := right_user hr (by omega)
  refine c_reg ?_
  refine r_fieldAddr (b := 0) (o := 0) (n := 1) (o' := 1) rfl rfl rfl rfl rfl ?_
  refine r_load (p := pt 0 1) (v := .int .i64 e.client) rfl rfl rfl (by kernel_rfl) ?_
  refine r_call (e := [some (1, 0), some (2, 0)]) (nid := 0) (fs_n_ok (G := G) ([] ++ [(⟨1, (numS e.kind).1⟩ : Field)]) 1 2 e.client rfl (by omega) (by omega) (by omega)) (vals := [pt 1 0, .int .i64 2, .int .i64 e.client]) (v := .tuple #[]) (H' := [bxB 109 (entC e), rfB (slv 2 0 2 2), rwB cFd (([] ++ [(⟨1, (numS e.kind).1⟩ : Field)]) ++ [(⟨2, (numS e.client).1⟩ : Field)]), hole, hole]) rfl rfl rfl rfl rfl rfl ⟨⟨⟨rfl, rfl⟩, rfl, rfl, trivial⟩, ⟨(emb_wr rfl rfl rfl rfl), (emb_wr rfl rfl rfl rfl), trivial⟩, rfl, rfl, rfl, Nat.le_refl _⟩ (by kernel_rfl) rfl (by kernel_rfl) ?_
  refine r_doneN (x_then (c_seq (c_reg ?_)))
  refine r_fieldAddr (b := 0) (o := 0) (n := 2) (o' := 2) rfl rfl rfl rfl rfl ?_
  refine r_load (p := pt 0 2) (v := .int .i64 e.seq) rfl rfl rfl (by kernel_rfl) ?_
  refine r_call (e := [some (1, 0), some (2, 0)]) (nid := 0) (fs_n_ok (G := G) (([] ++ [(⟨1, (numS e.kind).1⟩ : Field)]) ++ [(⟨2, (numS e.client).1⟩ : Field)]) 2 3 e.seq rfl (by omega) (by omega) (by omega)) (vals := [pt 1 0, .int .i64 3, .int .i64 e.seq]) (v := .tuple #[]) (H' := [bxB 109 (entC e), rfB (slv 2 0 3 3), rwB cFd ((([] ++ [(⟨1, (numS e.kind).1⟩ : Field)]) ++ [(⟨2, (numS e.client).1⟩ : Field)]) ++ [(⟨3, (numS e.seq).1⟩ : Field)]), hole, hole]) rfl rfl rfl rfl rfl rfl ⟨⟨⟨rfl, rfl⟩, rfl, rfl, trivial⟩, ⟨(emb_wr rfl rfl rfl rfl), (emb_wr rfl rfl rfl rfl), trivial⟩, rfl, rfl, rfl, Nat.le_refl _⟩ (by kernel_rfl) rfl (by kernel_rfl) ?_
  refine r_doneN (x_then (c_reg ?_))
  refine r_fieldAddr (b := 0) (o := 0) (n := 3) (o' := 3) rfl rfl rfl rfl rfl ?_
  refine r_load (p := pt 0 3) (v := .string e.text) rfl rfl rfl (by kernel_rfl) ?_
  refine r_call (e := [some (1, 0), some (2, 0)]) (nid := 0) (fs_s_ok (G := G) ((([] ++ [(⟨1, (numS e.kind).1⟩ : Field)]) ++ [(⟨2, (numS e.client).1⟩ : Field)]) ++ [(⟨3, (numS e.seq).1⟩ : Field)]) 3 4 e.text rfl (by omega)) (vals := [pt 1 0, .int .i64 4, .string e.text]) (v := .tuple #[]) (H' := [bxB 109 (entC e), rfB (slv 2 0 4 4), rwB cFd (((([] ++ [(⟨1, (numS e.kind).1⟩ : Field)]) ++ [(⟨2, (numS e.client).1⟩ : Field)]) ++ [(⟨3, (numS e.seq).1⟩ : Field)]) ++ [(⟨4, e.text⟩ : Field)]), hole, hole]) rfl rfl rfl rfl rfl rfl ⟨⟨⟨rfl, rfl⟩, rfl, rfl, trivial⟩, ⟨(emb_wr rfl rfl rfl rfl), (emb_wr rfl rfl rfl rfl), trivial⟩, rfl, rfl, rfl, Nat.le_refl _⟩ (by kernel_rfl) rfl (by kernel_rfl) ?_
  refine r_doneN (x_blockN (x_then (c_seq (c_reg ?_))))
  refine r_load (p := pt 1 0) (v := slv 2 0 4 4) rfl rfl rfl rfl ?_
  refine r_callN (e := [some (2, 0)]) (nid := 3) (fs_bytes_ok (G := G) (((([] ++ [(⟨1, (numS e.kind).1⟩ : Field)]) ++ [(⟨2, (numS e.client).1⟩ : Field)]) ++ [(⟨3, (numS e.seq).1⟩ : Field)]) ++ [(⟨4, e.text⟩ : Field)]) 4 4 rfl (by omega) (by omega)) (vals := [slv 2 0 4 4]) (v := .tuple #[slv 3 0 ((layF (((([] ++ [(⟨1, (numS e.kind).1⟩ : Field)]) ++ [(⟨2, (numS e.client).1⟩ : Field)]) ++ [(⟨3, (numS e.seq).1⟩ : Field)]) ++ [(⟨4, e.text⟩ : Field)]) 0 []).1.length) ((layF (((([] ++ [(⟨1, (numS e.kind).1⟩ : Field)]) ++ [(⟨2, (numS e.client).1⟩ : Field)]) ++ [(⟨3, (numS e.seq).1⟩ : Field)]) ++ [(⟨4, e.text⟩ : Field)]) 0 []).1.length), .int .i64 (((layF (((([] ++ [(⟨1, (numS e.kind).1⟩ : Field)]) ++ [(⟨2, (numS e.client).1⟩ : Field)]) ++ [(⟨3, (numS e.seq).1⟩ : Field)]) ++ [(⟨4, e.text⟩ : Field)]) 0 []).2))]) (H' := [bxB 109 (entC e), rfB (slv 2 0 4 4), rwB cFd (((([] ++ [(⟨1, (numS e.kind).1⟩ : Field)]) ++ [(⟨2, (numS e.client).1⟩ : Field)]) ++ [(⟨3, (numS e.seq).1⟩ : Field)]) ++ [(⟨4, e.text⟩ : Field)]), rowB ((layF (((([] ++ [(⟨1, (numS e.kind).1⟩ : Field)]) ++ [(⟨2, (numS e.client).1⟩ : Field)]) ++ [(⟨3, (numS e.seq).1⟩ : Field)]) ++ [(⟨4, e.text⟩ : Field)]) 0 []).1), hole]) rfl rfl rfl rfl rfl rfl rfl ⟨⟨⟨rfl, rfl, rfl, by first | omega | exact Nat.le_refl _, by first | omega | exact Nat.le_refl _⟩, trivial⟩, ⟨(emb_rwB rfl), trivial⟩, rfl, rfl, rfl⟩ (by kernel_rfl) (by kernel_rfl) ?_
  refine r_extract (vs := #[slv 3 0 ((layF (((([] ++ [(⟨1, (numS e.kind).1⟩ : Field)]) ++ [(⟨2, (numS e.client).1⟩ : Field)]) ++ [(⟨3, (numS e.seq).1⟩ : Field)]) ++ [(⟨4, e.text⟩ : Field)]) 0 []).1.length) ((layF (((([] ++ [(⟨1, (numS e.kind).1⟩ : Field)]) ++ [(⟨2, (numS e.client).1⟩ : Field)]) ++ [(⟨3, (numS e.seq).1⟩ : Field)]) ++ [(⟨4, e.text⟩ : Field)]) 0 []).1.length), .int .i64 (((layF (((([] ++ [(⟨1, (numS e.kind).1⟩ : Field)]) ++ [(⟨2, (numS e.client).1⟩ : Field)]) ++ [(⟨3, (numS e.seq).1⟩ : Field)]) ++ [(⟨4, e.text⟩ : Field)]) 0 []).2))]) (v := slv 3 0 ((layF (((([] ++ [(⟨1, (numS e.kind).1⟩ : Field)]) ++ [(⟨2, (numS e.client).1⟩ : Field)]) ++ [(⟨3, (numS e.seq).1⟩ : Field)]) ++ [(⟨4, e.text⟩ : Field)]) 0 []).1.length) ((layF (((([] ++ [(⟨1, (numS e.kind).1⟩ : Field)]) ++ [(⟨2, (numS e.client).1⟩ : Field)]) ++ [(⟨3, (numS e.seq).1⟩ : Field)]) ++ [(⟨4, e.text⟩ : Field)]) 0 []).1.length)) rfl rfl rfl rfl ?_
  refine r_extract (vs := #[slv 3 0 ((layF (((([] ++ [(⟨1, (numS e.kind).1⟩ : Field)]) ++ [(⟨2, (numS e.client).1⟩ : Field)]) ++ [(⟨3, (numS e.seq).1⟩ : Field)]) ++ [(⟨4, e.text⟩ : Field)]) 0 []).1.length) ((layF (((([] ++ [(⟨1, (numS e.kind).1⟩ : Field)]) ++ [(⟨2, (numS e.client).1⟩ : Field)]) ++ [(⟨3, (numS e.seq).1⟩ : Field)]) ++ [(⟨4, e.text⟩ : Field)]) 0 []).1.length), .int .i64 (((layF (((([] ++ [(⟨1, (numS e.kind).1⟩ : Field)]) ++ [(⟨2, (numS e.client).1⟩ : Field)]) ++ [(⟨3, (numS e.seq).1⟩ : Field)]) ++ [(⟨4, e.text⟩ : Field)]) 0 []).2))]) (v := .int .i64 (((layF (((([] ++ [(⟨1, (numS e.kind).1⟩ : Field)]) ++ [(⟨2, (numS e.client).1⟩ : Field)]) ++ [(⟨3, (numS e.seq).1⟩ : Field)]) ++ [(⟨4, e.text⟩ : Field)]) 0 []).2))) rfl rfl rfl rfl ?_
  refine r_assign (v := slv 3 0 ((layF (((([] ++ [(⟨1, (numS e.kind).1⟩ : Field)]) ++ [(⟨2, (numS e.client).1⟩ : Field)]) ++ [(⟨3, (numS e.seq).1⟩ : Field)]) ++ [(⟨4, e.text⟩ : Field)]) 0 []).1.length) ((layF (((([] ++ [(⟨1, (numS e.kind).1⟩ : Field)]) ++ [(⟨2, (numS e.client).1⟩ : Field)]) ++ [(⟨3, (numS e.seq).1⟩ : Field)]) ++ [(⟨4, e.text⟩ : Field)]) 0 []).1.length)) rfl rfl rfl ?_
  refine r_assign (v := .int .i64 (((layF (((([] ++ [(⟨1, (numS e.kind).1⟩ : Field)]) ++ [(⟨2, (numS e.client).1⟩ : Field)]) ++ [(⟨3, (numS e.seq).1⟩ : Field)]) ++ [(⟨4, e.text⟩ : Field)]) 0 []).2))) rfl rfl rfl ?_
  refine r_doneN (x_then (c_ret (x_end ?_)))
  have ee : (((([] ++ [(⟨1, (numS e.kind).1⟩ : Field)]) ++ [(⟨2, (numS e.client).1⟩ : Field)]) ++ [(⟨3, (numS e.seq).1⟩ : Field)]) ++ [(⟨4, e.text⟩ : Field)]) = entF e := by unfold entF; first | (rw [if_pos (by omega)]; done) | (rw [if_pos (by omega)]; rfl) | (rw [if_neg (by omega), if_pos (by omega)]; rfl) | (rw [if_neg (by omega), if_neg (by omega)]; rfl)
  have ez := entF_ok hr
  rw [← ee] at ez
  rw [show putE e = ((layF (((([] ++ [(⟨1, (numS e.kind).1⟩ : Field)]) ++ [(⟨2, (numS e.client).1⟩ : Field)]) ++ [(⟨3, (numS e.seq).1⟩ : Field)]) ++ [(⟨4, e.text⟩ : Field)]) 0 []).1, (layF (((([] ++ [(⟨1, (numS e.kind).1⟩ : Field)]) ++ [(⟨2, (numS e.client).1⟩ : Field)]) ++ [(⟨3, (numS e.seq).1⟩ : Field)]) ++ [(⟨4, e.text⟩ : Field)]) 0 []).2) from by rw [ez, ee]; exact if_pos hr]
  exact end_map [3] (v := .tuple #[slv 3 0 ((layF (((([] ++ [(⟨1, (numS e.kind).1⟩ : Field)]) ++ [(⟨2, (numS e.client).1⟩ : Field)]) ++ [(⟨3, (numS e.seq).1⟩ : Field)]) ++ [(⟨4, e.text⟩ : Field)]) 0 []).1.length) ((layF (((([] ++ [(⟨1, (numS e.kind).1⟩ : Field)]) ++ [(⟨2, (numS e.client).1⟩ : Field)]) ++ [(⟨3, (numS e.seq).1⟩ : Field)]) ++ [(⟨4, e.text⟩ : Field)]) 0 []).1.length), .int .i64 (((layF (((([] ++ [(⟨1, (numS e.kind).1⟩ : Field)]) ++ [(⟨2, (numS e.client).1⟩ : Field)]) ++ [(⟨3, (numS e.seq).1⟩ : Field)]) ++ [(⟨4, e.text⟩ : Field)]) 0 []).2))]) rfl (by kernel_rfl) rfl rfl (by decide) (by simp [keptB, rowB]) ⟨⟨rfl, rfl, rfl, by first | omega | exact Nat.le_refl _ | exact Nat.zero_le _ | (dsimp only; omega), by first | omega | exact Nat.le_refl _ | exact Nat.zero_le _ | (dsimp only; omega)⟩, rfl, trivial⟩
  refine r_bin (v := .bool false) (vx := .int .i64 e.kind) (vy := .int .i64 1) rfl rfl rfl rfl (eql_f (by omega)) ?_
  refine r_assign (v := .bool false) rfl rfl rfl ?_
  refine r_doneN (x_then (c_false rfl (c_seq (c_reg ?_))))
  by_cases h3 : e.kind = 2
  refine r_bin (v := .bool true) (vx := .int .i64 e.kind) (vy := .int .i64 2) rfl rfl rfl rfl (eql_t (by omega)) ?_
  refine r_assign (v := .bool true) rfl rfl rfl ?_
  refine r_doneN (x_then (c_true rfl (c_seq (c_reg ?_))))
  refine r_fieldAddr (b := 0) (o := 0) (n := 4) (o' := 4) rfl rfl rfl rfl rfl ?_
  refine r_load (p := pt 0 4) (v := signedV e.head) rfl rfl rfl (by kernel_rfl) ?_
  refine r_callN (e := []) (nid := 3) (PutSigned_ok (G := G) e.head) (vals := [signedV e.head]) (v := .tuple #[slv 3 0 ((putSF e.head).1.length) ((putSF e.head).1.length), .int .i64 (((putSF e.head).2))]) (H' := [bxB 109 (entC e), rfB (slv 2 0 1 1), rwB cFd ([] ++ [(⟨1, (numS e.kind).1⟩ : Field)]), rowB ((putSF e.head).1), hole]) rfl rfl rfl rfl rfl rfl rfl ⟨⟨rfl, trivial⟩, trivial, rfl, rfl, rfl⟩ (by kernel_rfl) (by kernel_rfl) ?_
  refine r_move (v := .tuple #[slv 3 0 ((putSF e.head).1.length) ((putSF e.head).1.length), .int .i64 (((putSF e.head).2))]) rfl rfl rfl ?_
  refine r_extract (vs := #[slv 3 0 ((putSF e.head).1.length) ((putSF e.head).1.length), .int .i64 (((putSF e.head).2))]) (v := slv 3 0 ((putSF e.head).1.length) ((putSF e.head).1.length)) rfl rfl rfl rfl ?_
  refine r_extract (vs := #[slv 3 0 ((putSF e.head).1.length) ((putSF e.head).1.length), .int .i64 (((putSF e.head).2))]) (v := .int .i64 (((putSF e.head).2))) rfl rfl rfl rfl ?_
  refine r_assign (v := slv 3 0 ((putSF e.head).1.length) ((putSF e.head).1.length)) rfl rfl rfl ?_
  refine r_assign (v := .int .i64 (((putSF e.head).2))) rfl rfl rfl ?_
  refine r_doneN (x_then (c_reg ?_))
  refine r_move (v := slv 3 0 ((putSF e.head).1.length) ((putSF e.head).1.length)) rfl rfl rfl ?_
  refine r_str (p := slv 3 0 ((putSF e.head).1.length) ((putSF e.head).1.length)) (v := .string (strOf ((putSF e.head).1))) rfl rfl rfl (str_whole rfl rfl rfl rfl rfl (by omega)) ?_
  refine r_call (e := [some (1, 0), some (2, 0)]) (nid := 0) (fs_s_ok (G := G) ([] ++ [(⟨1, (numS e.kind).1⟩ : Field)]) 1 5 (strOf ((putSF e.head).1)) rfl (by omega)) (vals := [pt 1 0, .int .i64 5, .string (strOf ((putSF e.head).1))]) (v := .tuple #[]) (H' := [bxB 109 (entC e), rfB (slv 2 0 2 2), rwB cFd (([] ++ [(⟨1, (numS e.kind).1⟩ : Field)]) ++ [(⟨5, (strOf ((putSF e.head).1))⟩ : Field)]), rowB ((putSF e.head).1), hole]) rfl rfl rfl rfl rfl rfl ⟨⟨⟨rfl, rfl⟩, rfl, rfl, trivial⟩, ⟨(emb_wr rfl rfl rfl rfl), (emb_wr rfl rfl rfl rfl), trivial⟩, rfl, rfl, rfl, Nat.le_refl _⟩ (by kernel_rfl) rfl (by kernel_rfl) ?_
  refine r_doneN (x_blockN (x_then (c_seq (c_reg ?_))))
  refine r_load (p := pt 1 0) (v := slv 2 0 2 2) rfl rfl rfl rfl ?_
  refine r_callN (e := [some (2, 0)]) (nid := 4) (fs_bytes_ok (G := G) (([] ++ [(⟨1, (numS e.kind).1⟩ : Field)]) ++ [(⟨5, (strOf ((putSF e.head).1))⟩ : Field)]) 2 2 rfl (by omega) (by omega)) (vals := [slv 2 0 2 2]) (v := .tuple #[slv 4 0 ((layF (([] ++ [(⟨1, (numS e.kind).1⟩ : Field)]) ++ [(⟨5, (strOf ((putSF e.head).1))⟩ : Field)]) 0 []).1.length) ((layF (([] ++ [(⟨1, (numS e.kind).1⟩ : Field)]) ++ [(⟨5, (strOf ((putSF e.head).1))⟩ : Field)]) 0 []).1.length), .int .i64 (((layF (([] ++ [(⟨1, (numS e.kind).1⟩ : Field)]) ++ [(⟨5, (strOf ((putSF e.head).1))⟩ : Field)]) 0 []).2))]) (H' := [bxB 109 (entC e), rfB (slv 2 0 2 2), rwB cFd (([] ++ [(⟨1, (numS e.kind).1⟩ : Field)]) ++ [(⟨5, (strOf ((putSF e.head).1))⟩ : Field)]), rowB ((putSF e.head).1), rowB ((layF (([] ++ [(⟨1, (numS e.kind).1⟩ : Field)]) ++ [(⟨5, (strOf ((putSF e.head).1))⟩ : Field)]) 0 []).1)]) rfl rfl rfl rfl rfl rfl rfl ⟨⟨⟨rfl, rfl, rfl, by first | omega | exact Nat.le_refl _, by first | omega | exact Nat.le_refl _⟩, trivial⟩, ⟨(emb_rwB rfl), trivial⟩, rfl, rfl, rfl⟩ (by kernel_rfl) (by kernel_rfl) ?_
  refine r_extract (vs := #[slv 4 0 ((layF (([] ++ [(⟨1, (numS e.kind).1⟩ : Field)]) ++ [(⟨5, (strOf ((putSF e.head).1))⟩ : Field)]) 0 []).1.length) ((layF (([] ++ [(⟨1, (numS e.kind).1⟩ : Field)]) ++ [(⟨5, (strOf ((putSF e.head).1))⟩ : Field)]) 0 []).1.length), .int .i64 (((layF (([] ++ [(⟨1, (numS e.kind).1⟩ : Field)]) ++ [(⟨5, (strOf ((putSF e.head).1))⟩ : Field)]) 0 []).2))]) (v := slv 4 0 ((layF (([] ++ [(⟨1, (numS e.kind).1⟩ : Field)]) ++ [(⟨5, (strOf ((putSF e.head).1))⟩ : Field)]) 0 []).1.length) ((layF (([] ++ [(⟨1, (numS e.kind).1⟩ : Field)]) ++ [(⟨5, (strOf ((putSF e.head).1))⟩ : Field)]) 0 []).1.length)) rfl rfl rfl rfl ?_
  refine r_extract (vs := #[slv 4 0 ((layF (([] ++ [(⟨1, (numS e.kind).1⟩ : Field)]) ++ [(⟨5, (strOf ((putSF e.head).1))⟩ : Field)]) 0 []).1.length) ((layF (([] ++ [(⟨1, (numS e.kind).1⟩ : Field)]) ++ [(⟨5, (strOf ((putSF e.head).1))⟩ : Field)]) 0 []).1.length), .int .i64 (((layF (([] ++ [(⟨1, (numS e.kind).1⟩ : Field)]) ++ [(⟨5, (strOf ((putSF e.head).1))⟩ : Field)]) 0 []).2))]) (v := .int .i64 (((layF (([] ++ [(⟨1, (numS e.kind).1⟩ : Field)]) ++ [(⟨5, (strOf ((putSF e.head).1))⟩ : Field)]) 0 []).2))) rfl rfl rfl rfl ?_
  refine r_assign (v := slv 4 0 ((layF (([] ++ [(⟨1, (numS e.kind).1⟩ : Field)]) ++ [(⟨5, (strOf ((putSF e.head).1))⟩ : Field)]) 0 []).1.length) ((layF (([] ++ [(⟨1, (numS e.kind).1⟩ : Field)]) ++ [(⟨5, (strOf ((putSF e.head).1))⟩ : Field)]) 0 []).1.length)) rfl rfl rfl ?_
  refine r_assign (v := .int .i64 (((layF (([] ++ [(⟨1, (numS e.kind).1⟩ : Field)]) ++ [(⟨5, (strOf ((putSF e.head).1))⟩ : Field)]) 0 []).2))) rfl rfl rfl ?_
  refine r_doneN (x_then (c_ret (x_end ?_)))
  have ee : (([] ++ [(⟨1, (numS e.kind).1⟩ : Field)]) ++ [(⟨5, (strOf ((putSF e.head).1))⟩ : Field)]) = entF e := by unfold entF; first | (rw [if_pos (by omega)]; done) | (rw [if_pos (by omega)]; rfl) | (rw [if_neg (by omega), if_pos (by omega)]; rfl) | (rw [if_neg (by omega), if_neg (by omega)]; rfl)
  have ez := entF_ok hr
  rw [← ee] at ez
  rw [show putE e = ((layF (([] ++ [(⟨1, (numS e.kind).1⟩ : Field)]) ++ [(⟨5, (strOf ((putSF e.head).1))⟩ : Field)]) 0 []).1, (layF (([] ++ [(⟨1, (numS e.kind).1⟩ : Field)]) ++ [(⟨5, (strOf ((putSF e.head).1))⟩ : Field)]) 0 []).2) from by rw [ez, ee]; exact if_pos hr]
  exact end_map [4] (v := .tuple #[slv 4 0 ((layF (([] ++ [(⟨1, (numS e.kind).1⟩ : Field)]) ++ [(⟨5, (strOf ((putSF e.head).1))⟩ : Field)]) 0 []).1.length) ((layF (([] ++ [(⟨1, (numS e.kind).1⟩ : Field)]) ++ [(⟨5, (strOf ((putSF e.head).1))⟩ : Field)]) 0 []).1.length), .int .i64 (((layF (([] ++ [(⟨1, (numS e.kind).1⟩ : Field)]) ++ [(⟨5, (strOf ((putSF e.head).1))⟩ : Field)]) 0 []).2))]) rfl (by kernel_rfl) rfl rfl (by decide) (by simp [keptB, rowB]) ⟨⟨rfl, rfl, rfl, by first | omega | exact Nat.le_refl _ | exact Nat.zero_le _ | (dsimp only; omega), by first | omega | exact Nat.le_refl _ | exact Nat.zero_le _ | (dsimp only; omega)⟩, rfl, trivial⟩
  refine r_bin (v := .bool false) (vx := .int .i64 e.kind) (vy := .int .i64 2) rfl rfl rfl rfl (eql_f (by omega)) ?_
  refine r_assign (v := .bool false) rfl rfl rfl ?_
  refine r_doneN (x_then (c_false rfl (c_seq (c_reg ?_))))
  refine r_bin (v := .bool true) (vx := .int .i64 e.kind) (vy := .int .i64 3) rfl rfl rfl rfl (eql_t (by omega)) ?_
  refine r_assign (v := .bool true) rfl rfl rfl ?_
  refine r_doneN (x_then (c_true rfl (c_seq (c_reg ?_))))
  refine r_fieldAddr (b := 0) (o := 0) (n := 73) (o' := 73) rfl rfl rfl rfl rfl ?_
  refine r_load (p := pt 0 73) (v := claimV e.claim) rfl rfl rfl (by kernel_rfl) ?_
  refine r_callN (e := []) (nid := 3) (PutClaim_ok (G := G) e.claim) (vals := [claimV e.claim]) (v := .tuple #[slv 3 0 ((putC e.claim).1.length) ((putC e.claim).1.length), .int .i64 (((putC e.claim).2))]) (H' := [bxB 109 (entC e), rfB (slv 2 0 1 1), rwB cFd ([] ++ [(⟨1, (numS e.kind).1⟩ : Field)]), rowB ((putC e.claim).1), hole]) rfl rfl rfl rfl rfl rfl rfl ⟨⟨rfl, trivial⟩, trivial, rfl, rfl, rfl⟩ (by kernel_rfl) (by kernel_rfl) ?_
  refine r_move (v := .tuple #[slv 3 0 ((putC e.claim).1.length) ((putC e.claim).1.length), .int .i64 (((putC e.claim).2))]) rfl rfl rfl ?_
  refine r_extract (vs := #[slv 3 0 ((putC e.claim).1.length) ((putC e.claim).1.length), .int .i64 (((putC e.claim).2))]) (v := slv 3 0 ((putC e.claim).1.length) ((putC e.claim).1.length)) rfl rfl rfl rfl ?_
  refine r_extract (vs := #[slv 3 0 ((putC e.claim).1.length) ((putC e.claim).1.length), .int .i64 (((putC e.claim).2))]) (v := .int .i64 (((putC e.claim).2))) rfl rfl rfl rfl ?_
  refine r_assign (v := slv 3 0 ((putC e.claim).1.length) ((putC e.claim).1.length)) rfl rfl rfl ?_
  refine r_assign (v := .int .i64 (((putC e.claim).2))) rfl rfl rfl ?_
  refine r_doneN (x_then (c_reg ?_))
  refine r_move (v := slv 3 0 ((putC e.claim).1.length) ((putC e.claim).1.length)) rfl rfl rfl ?_
  refine r_str (p := slv 3 0 ((putC e.claim).1.length) ((putC e.claim).1.length)) (v := .string (strOf ((putC e.claim).1))) rfl rfl rfl (str_whole rfl rfl rfl rfl rfl (by omega)) ?_
  refine r_call (e := [some (1, 0), some (2, 0)]) (nid := 0) (fs_s_ok (G := G) ([] ++ [(⟨1, (numS e.kind).1⟩ : Field)]) 1 6 (strOf ((putC e.claim).1)) rfl (by omega)) (vals := [pt 1 0, .int .i64 6, .string (strOf ((putC e.claim).1))]) (v := .tuple #[]) (H' := [bxB 109 (entC e), rfB (slv 2 0 2 2), rwB cFd (([] ++ [(⟨1, (numS e.kind).1⟩ : Field)]) ++ [(⟨6, (strOf ((putC e.claim).1))⟩ : Field)]), rowB ((putC e.claim).1), hole]) rfl rfl rfl rfl rfl rfl ⟨⟨⟨rfl, rfl⟩, rfl, rfl, trivial⟩, ⟨(emb_wr rfl rfl rfl rfl), (emb_wr rfl rfl rfl rfl), trivial⟩, rfl, rfl, rfl, Nat.le_refl _⟩ (by kernel_rfl) rfl (by kernel_rfl) ?_
  refine r_doneN (x_blockN (x_then (c_seq (c_reg ?_))))
  refine r_load (p := pt 1 0) (v := slv 2 0 2 2) rfl rfl rfl rfl ?_
  refine r_callN (e := [some (2, 0)]) (nid := 4) (fs_bytes_ok (G := G) (([] ++ [(⟨1, (numS e.kind).1⟩ : Field)]) ++ [(⟨6, (strOf ((putC e.claim).1))⟩ : Field)]) 2 2 rfl (by omega) (by omega)) (vals := [slv 2 0 2 2]) (v := .tuple #[slv 4 0 ((layF (([] ++ [(⟨1, (numS e.kind).1⟩ : Field)]) ++ [(⟨6, (strOf ((putC e.claim).1))⟩ : Field)]) 0 []).1.length) ((layF (([] ++ [(⟨1, (numS e.kind).1⟩ : Field)]) ++ [(⟨6, (strOf ((putC e.claim).1))⟩ : Field)]) 0 []).1.length), .int .i64 (((layF (([] ++ [(⟨1, (numS e.kind).1⟩ : Field)]) ++ [(⟨6, (strOf ((putC e.claim).1))⟩ : Field)]) 0 []).2))]) (H' := [bxB 109 (entC e), rfB (slv 2 0 2 2), rwB cFd (([] ++ [(⟨1, (numS e.kind).1⟩ : Field)]) ++ [(⟨6, (strOf ((putC e.claim).1))⟩ : Field)]), rowB ((putC e.claim).1), rowB ((layF (([] ++ [(⟨1, (numS e.kind).1⟩ : Field)]) ++ [(⟨6, (strOf ((putC e.claim).1))⟩ : Field)]) 0 []).1)]) rfl rfl rfl rfl rfl rfl rfl ⟨⟨⟨rfl, rfl, rfl, by first | omega | exact Nat.le_refl _, by first | omega | exact Nat.le_refl _⟩, trivial⟩, ⟨(emb_rwB rfl), trivial⟩, rfl, rfl, rfl⟩ (by kernel_rfl) (by kernel_rfl) ?_
  refine r_extract (vs := #[slv 4 0 ((layF (([] ++ [(⟨1, (numS e.kind).1⟩ : Field)]) ++ [(⟨6, (strOf ((putC e.claim).1))⟩ : Field)]) 0 []).1.length) ((layF (([] ++ [(⟨1, (numS e.kind).1⟩ : Field)]) ++ [(⟨6, (strOf ((putC e.claim).1))⟩ : Field)]) 0 []).1.length), .int .i64 (((layF (([] ++ [(⟨1, (numS e.kind).1⟩ : Field)]) ++ [(⟨6, (strOf ((putC e.claim).1))⟩ : Field)]) 0 []).2))]) (v := slv 4 0 ((layF (([] ++ [(⟨1, (numS e.kind).1⟩ : Field)]) ++ [(⟨6, (strOf ((putC e.claim).1))⟩ : Field)]) 0 []).1.length) ((layF (([] ++ [(⟨1, (numS e.kind).1⟩ : Field)]) ++ [(⟨6, (strOf ((putC e.claim).1))⟩ : Field)]) 0 []).1.length)) rfl rfl rfl rfl ?_
  refine r_extract (vs := #[slv 4 0 ((layF (([] ++ [(⟨1, (numS e.kind).1⟩ : Field)]) ++ [(⟨6, (strOf ((putC e.claim).1))⟩ : Field)]) 0 []).1.length) ((layF (([] ++ [(⟨1, (numS e.kind).1⟩ : Field)]) ++ [(⟨6, (strOf ((putC e.claim).1))⟩ : Field)]) 0 []).1.length), .int .i64 (((layF (([] ++ [(⟨1, (numS e.kind).1⟩ : Field)]) ++ [(⟨6, (strOf ((putC e.claim).1))⟩ : Field)]) 0 []).2))]) (v := .int .i64 (((layF (([] ++ [(⟨1, (numS e.kind).1⟩ : Field)]) ++ [(⟨6, (strOf ((putC e.claim).1))⟩ : Field)]) 0 []).2))) rfl rfl rfl rfl ?_
  refine r_assign (v := slv 4 0 ((layF (([] ++ [(⟨1, (numS e.kind).1⟩ : Field)]) ++ [(⟨6, (strOf ((putC e.claim).1))⟩ : Field)]) 0 []).1.length) ((layF (([] ++ [(⟨1, (numS e.kind).1⟩ : Field)]) ++ [(⟨6, (strOf ((putC e.claim).1))⟩ : Field)]) 0 []).1.length)) rfl rfl rfl ?_
  refine r_assign (v := .int .i64 (((layF (([] ++ [(⟨1, (numS e.kind).1⟩ : Field)]) ++ [(⟨6, (strOf ((putC e.claim).1))⟩ : Field)]) 0 []).2))) rfl rfl rfl ?_
  refine r_doneN (x_then (c_ret (x_end ?_)))
  have ee : (([] ++ [(⟨1, (numS e.kind).1⟩ : Field)]) ++ [(⟨6, (strOf ((putC e.claim).1))⟩ : Field)]) = entF e := by unfold entF; first | (rw [if_pos (by omega)]; done) | (rw [if_pos (by omega)]; rfl) | (rw [if_neg (by omega), if_pos (by omega)]; rfl) | (rw [if_neg (by omega), if_neg (by omega)]; rfl)
  have ez := entF_ok hr
  rw [← ee] at ez
  rw [show putE e = ((layF (([] ++ [(⟨1, (numS e.kind).1⟩ : Field)]) ++ [(⟨6, (strOf ((putC e.claim).1))⟩ : Field)]) 0 []).1, (layF (([] ++ [(⟨1, (numS e.kind).1⟩ : Field)]) ++ [(⟨6, (strOf ((putC e.claim).1))⟩ : Field)]) 0 []).2) from by rw [ez, ee]; exact if_pos hr]
  exact end_map [4] (v := .tuple #[slv 4 0 ((layF (([] ++ [(⟨1, (numS e.kind).1⟩ : Field)]) ++ [(⟨6, (strOf ((putC e.claim).1))⟩ : Field)]) 0 []).1.length) ((layF (([] ++ [(⟨1, (numS e.kind).1⟩ : Field)]) ++ [(⟨6, (strOf ((putC e.claim).1))⟩ : Field)]) 0 []).1.length), .int .i64 (((layF (([] ++ [(⟨1, (numS e.kind).1⟩ : Field)]) ++ [(⟨6, (strOf ((putC e.claim).1))⟩ : Field)]) 0 []).2))]) rfl (by kernel_rfl) rfl rfl (by decide) (by simp [keptB, rowB]) ⟨⟨rfl, rfl, rfl, by first | omega | exact Nat.le_refl _ | exact Nat.zero_le _ | (dsimp only; omega), by first | omega | exact Nat.le_refl _ | exact Nat.zero_le _ | (dsimp only; omega)⟩, rfl, trivial⟩
theorem PutItem_ok (x : Item) : CallL Tryd.prog G 114 [itemV x] [] (.tuple #[slv 0 0 (putI x).1.length (putI x).1.length, .int .i64 (putI x).2]) [rowB (putI x).1] := by
  refine walk (fn := Tryd.f114) (nt := 31) rfl rfl rfl rfl ?_
  refine c_hole 5 (H' := [hole, hole, hole, hole, hole]) rfl ?_
  refine c_seq (c_reg ?_)
  refine r_box (v := itemV x) (b := bxB 110 (itemC x)) (nid := 0) (H' := [bxB 110 (itemC x), hole, hole, hole, hole]) rfl rfl rfl (by kernel_rfl) (by kernel_rfl) ?_
  refine r_assign (v := .slice none 0 0) rfl rfl rfl ?_
  refine r_assign (v := .int .i64 0) rfl rfl rfl ?_
  refine r_doneN (x_then (c_seq (c_reg ?_)))
  refine r_fieldAddr (b := 0) (o := 0) (n := 1) (o' := 1) rfl rfl rfl rfl rfl ?_
  refine r_load (p := pt 0 1) (v := entV x.entry) rfl rfl rfl (by kernel_rfl) ?_
  refine r_callN (e := []) (nid := 1) (EPut_ok (G := G) x.entry) (vals := [entV x.entry]) (v := .tuple #[slv 1 0 ((putE x.entry).1.length) ((putE x.entry).1.length), .int .i64 (((putE x.entry).2))]) (H' := [bxB 110 (itemC x), rowB ((putE x.entry).1), hole, hole, hole]) rfl rfl rfl rfl rfl rfl rfl ⟨⟨rfl, trivial⟩, trivial, rfl, rfl, rfl⟩ (by kernel_rfl) (by kernel_rfl) ?_
  refine r_move (v := .tuple #[slv 1 0 ((putE x.entry).1.length) ((putE x.entry).1.length), .int .i64 (((putE x.entry).2))]) rfl rfl rfl ?_
  refine r_extract (vs := #[slv 1 0 ((putE x.entry).1.length) ((putE x.entry).1.length), .int .i64 (((putE x.entry).2))]) (v := slv 1 0 ((putE x.entry).1.length) ((putE x.entry).1.length)) rfl rfl rfl rfl ?_
  refine r_extract (vs := #[slv 1 0 ((putE x.entry).1.length) ((putE x.entry).1.length), .int .i64 (((putE x.entry).2))]) (v := .int .i64 (((putE x.entry).2))) rfl rfl rfl rfl ?_
  refine r_assign (v := slv 1 0 ((putE x.entry).1.length) ((putE x.entry).1.length)) rfl rfl rfl ?_
  refine r_assign (v := .int .i64 (((putE x.entry).2))) rfl rfl rfl ?_
  refine r_doneN (x_then (c_seq (c_seq (c_reg ?_))))
  refine r_move (v := .int .i64 (((putE x.entry).2))) rfl rfl rfl ?_
  by_cases h1 : (((putE x.entry).2)) ≠ 0
  refine r_bin (v := .bool true) (vx := .int .i64 (((putE x.entry).2))) (vy := .int .i64 0) rfl rfl rfl rfl (neq_t (by omega)) ?_
  refine r_move (v := .bool true) rfl rfl rfl ?_
  refine r_skip rfl rfl (r_skip rfl rfl (r_skip rfl rfl (r_skip rfl rfl ?_)))
  refine r_pick (v := .bool true) rfl rfl rfl ?_
  refine r_doneN (x_then (c_true rfl (c_seq (c_reg ?_))))
  refine r_assign (v := .slice none 0 0) rfl rfl rfl ?_
  refine r_assign (v := .int .i64 60) rfl rfl rfl ?_
  refine r_doneN (x_then ?_)
  refine c_weak (Weak.nilTmp (i := 2) (b := 2) true 1 rfl (by decide) rfl) ?_
  refine c_ret (x_thenR (x_end ?_))
  rw [show putI x = ([], 60) from if_neg (fun q => by have q1 := q.1; have q2 := q.2.1; first | omega | (have := putE_0 q.2.2; omega))]
  exact end_map [2] (v := .tuple #[slv 2 0 0 0, .int .i64 60]) rfl (by kernel_rfl) rfl rfl (by decide) (by simp [keptB, rowB]) ⟨⟨rfl, rfl, rfl, by first | omega | exact Nat.le_refl _ | exact Nat.zero_le _ | (dsimp only; omega), by first | omega | exact Nat.le_refl _ | exact Nat.zero_le _ | (dsimp only; omega)⟩, rfl, trivial⟩
  refine r_bin (v := .bool false) (vx := .int .i64 (((putE x.entry).2))) (vy := .int .i64 0) rfl rfl rfl rfl (neq_f (by omega)) ?_
  refine r_move (v := .bool false) rfl rfl rfl ?_
  refine r_fieldAddr (b := 0) (o := 0) (n := 0) (o' := 0) rfl rfl rfl rfl rfl ?_
  refine r_load (p := pt 0 0) (v := .int .i64 x.epoch) rfl rfl rfl (by kernel_rfl) ?_
  by_cases h2 : 1 ≤ x.epoch
  by_cases h3 : x.epoch ≤ 900000000
  refine r_callP ((ewithin_ok (G := G) x.epoch 1 900000000).res (congrArg Value.bool (withinB_t (by omega) (by omega)))) (vals := [.int .i64 x.epoch, .int .i64 1, .int .i64 900000000]) (res' := .bool true) rfl rfl rfl rfl rfl rfl ?_
  refine r_un (v := .bool false) (vx := .bool true) rfl rfl rfl un_not ?_
  refine r_pick (v := .bool false) rfl rfl rfl ?_
  refine r_doneN (x_then (c_false rfl (c_skip (x_then (c_seq (c_reg ?_))))))
  refine r_alloc (b := rfB (.slice none 0 0)) (nid := 2) (H' := [bxB 110 (itemC x), rowB ((putE x.entry).1), rfB (.slice none 0 0), hole, hole]) rfl rfl (by kernel_rfl) (by kernel_rfl) ?_
  refine r_doneN (x_then (c_seq ?_))
  refine c_weak (Weak.nilCell (k := 2) (j := 0) (b := 3) true 2 rfl (by decide) rfl (by show 0 < 1; decide) rfl rfl) ?_
  refine c_reg ?_
  refine r_fieldAddr (b := 0) (o := 0) (n := 0) (o' := 0) rfl rfl rfl rfl rfl ?_
  refine r_load (p := pt 0 0) (v := .int .i64 x.epoch) rfl rfl rfl (by kernel_rfl) ?_
  refine r_call (e := [some (2, 0), some (3, 0)]) (nid := 0) (fs_n_ok (G := G) [] 0 1 x.epoch rfl (by omega) (by omega) (by omega)) (vals := [pt 2 0, .int .i64 1, .int .i64 x.epoch]) (v := .tuple #[]) (H' := [bxB 110 (itemC x), rowB ((putE x.entry).1), rfB (slv 3 0 1 1), rwB cFd ([] ++ [(⟨1, (numS x.epoch).1⟩ : Field)]), hole]) rfl rfl rfl rfl rfl rfl ⟨⟨⟨rfl, rfl⟩, rfl, rfl, trivial⟩, ⟨(emb_wr rfl rfl rfl rfl), (emb_wr rfl rfl rfl rfl), trivial⟩, rfl, rfl, rfl, Nat.le_refl _⟩ (by kernel_rfl) rfl (by kernel_rfl) ?_
  refine r_doneN (x_then (c_seq (c_reg ?_)))
  refine r_move (v := slv 1 0 ((putE x.entry).1.length) ((putE x.entry).1.length)) rfl rfl rfl ?_
  refine r_str (p := slv 1 0 ((putE x.entry).1.length) ((putE x.entry).1.length)) (v := .string (strOf ((putE x.entry).1))) rfl rfl rfl (str_whole rfl rfl rfl rfl rfl (by omega)) ?_
  refine r_call (e := [some (2, 0), some (3, 0)]) (nid := 0) (fs_s_ok (G := G) ([] ++ [(⟨1, (numS x.epoch).1⟩ : Field)]) 1 2 (strOf ((putE x.entry).1)) rfl (by omega)) (vals := [pt 2 0, .int .i64 2, .string (strOf ((putE x.entry).1))]) (v := .tuple #[]) (H' := [bxB 110 (itemC x), rowB ((putE x.entry).1), rfB (slv 3 0 2 2), rwB cFd (([] ++ [(⟨1, (numS x.epoch).1⟩ : Field)]) ++ [(⟨2, (strOf ((putE x.entry).1))⟩ : Field)]), hole]) rfl rfl rfl rfl rfl rfl ⟨⟨⟨rfl, rfl⟩, rfl, rfl, trivial⟩, ⟨(emb_wr rfl rfl rfl rfl), (emb_wr rfl rfl rfl rfl), trivial⟩, rfl, rfl, rfl, Nat.le_refl _⟩ (by kernel_rfl) rfl (by kernel_rfl) ?_
  refine r_doneN (x_then (c_seq (c_reg ?_)))
  refine r_load (p := pt 2 0) (v := slv 3 0 2 2) rfl rfl rfl rfl ?_
  refine r_callN (e := [some (3, 0)]) (nid := 4) (fs_bytes_ok (G := G) (([] ++ [(⟨1, (numS x.epoch).1⟩ : Field)]) ++ [(⟨2, (strOf ((putE x.entry).1))⟩ : Field)]) 2 2 rfl (by omega) (by omega)) (vals := [slv 3 0 2 2]) (v := .tuple #[slv 4 0 ((layF (([] ++ [(⟨1, (numS x.epoch).1⟩ : Field)]) ++ [(⟨2, (strOf ((putE x.entry).1))⟩ : Field)]) 0 []).1.length) ((layF (([] ++ [(⟨1, (numS x.epoch).1⟩ : Field)]) ++ [(⟨2, (strOf ((putE x.entry).1))⟩ : Field)]) 0 []).1.length), .int .i64 (((layF (([] ++ [(⟨1, (numS x.epoch).1⟩ : Field)]) ++ [(⟨2, (strOf ((putE x.entry).1))⟩ : Field)]) 0 []).2))]) (H' := [bxB 110 (itemC x), rowB ((putE x.entry).1), rfB (slv 3 0 2 2), rwB cFd (([] ++ [(⟨1, (numS x.epoch).1⟩ : Field)]) ++ [(⟨2, (strOf ((putE x.entry).1))⟩ : Field)]), rowB ((layF (([] ++ [(⟨1, (numS x.epoch).1⟩ : Field)]) ++ [(⟨2, (strOf ((putE x.entry).1))⟩ : Field)]) 0 []).1)]) rfl rfl rfl rfl rfl rfl rfl ⟨⟨⟨rfl, rfl, rfl, by first | omega | exact Nat.le_refl _, by first | omega | exact Nat.le_refl _⟩, trivial⟩, ⟨(emb_rwB rfl), trivial⟩, rfl, rfl, rfl⟩ (by kernel_rfl) (by kernel_rfl) ?_
  refine r_extract (vs := #[slv 4 0 ((layF (([] ++ [(⟨1, (numS x.epoch).1⟩ : Field)]) ++ [(⟨2, (strOf ((putE x.entry).1))⟩ : Field)]) 0 []).1.length) ((layF (([] ++ [(⟨1, (numS x.epoch).1⟩ : Field)]) ++ [(⟨2, (strOf ((putE x.entry).1))⟩ : Field)]) 0 []).1.length), .int .i64 (((layF (([] ++ [(⟨1, (numS x.epoch).1⟩ : Field)]) ++ [(⟨2, (strOf ((putE x.entry).1))⟩ : Field)]) 0 []).2))]) (v := slv 4 0 ((layF (([] ++ [(⟨1, (numS x.epoch).1⟩ : Field)]) ++ [(⟨2, (strOf ((putE x.entry).1))⟩ : Field)]) 0 []).1.length) ((layF (([] ++ [(⟨1, (numS x.epoch).1⟩ : Field)]) ++ [(⟨2, (strOf ((putE x.entry).1))⟩ : Field)]) 0 []).1.length)) rfl rfl rfl rfl ?_
  refine r_extract (vs := #[slv 4 0 ((layF (([] ++ [(⟨1, (numS x.epoch).1⟩ : Field)]) ++ [(⟨2, (strOf ((putE x.entry).1))⟩ : Field)]) 0 []).1.length) ((layF (([] ++ [(⟨1, (numS x.epoch).1⟩ : Field)]) ++ [(⟨2, (strOf ((putE x.entry).1))⟩ : Field)]) 0 []).1.length), .int .i64 (((layF (([] ++ [(⟨1, (numS x.epoch).1⟩ : Field)]) ++ [(⟨2, (strOf ((putE x.entry).1))⟩ : Field)]) 0 []).2))]) (v := .int .i64 (((layF (([] ++ [(⟨1, (numS x.epoch).1⟩ : Field)]) ++ [(⟨2, (strOf ((putE x.entry).1))⟩ : Field)]) 0 []).2))) rfl rfl rfl rfl ?_
  refine r_assign (v := slv 4 0 ((layF (([] ++ [(⟨1, (numS x.epoch).1⟩ : Field)]) ++ [(⟨2, (strOf ((putE x.entry).1))⟩ : Field)]) 0 []).1.length) ((layF (([] ++ [(⟨1, (numS x.epoch).1⟩ : Field)]) ++ [(⟨2, (strOf ((putE x.entry).1))⟩ : Field)]) 0 []).1.length)) rfl rfl rfl ?_
  refine r_assign (v := .int .i64 (((layF (([] ++ [(⟨1, (numS x.epoch).1⟩ : Field)]) ++ [(⟨2, (strOf ((putE x.entry).1))⟩ : Field)]) 0 []).2))) rfl rfl rfl ?_
  refine r_doneN (x_then (c_ret (x_end ?_)))
  have ee : (([] ++ [(⟨1, (numS x.epoch).1⟩ : Field)]) ++ [(⟨2, (strOf ((putE x.entry).1))⟩ : Field)]) = itemF x := rfl
  have ez := itemF_ok x
  rw [← ee] at ez
  rw [show putI x = ((layF (([] ++ [(⟨1, (numS x.epoch).1⟩ : Field)]) ++ [(⟨2, (strOf ((putE x.entry).1))⟩ : Field)]) 0 []).1, (layF (([] ++ [(⟨1, (numS x.epoch).1⟩ : Field)]) ++ [(⟨2, (strOf ((putE x.entry).1))⟩ : Field)]) 0 []).2) from by rw [ez, ee]; exact if_pos ⟨by omega, by omega, putE_1 (by omega)⟩]
  exact end_map [4] (v := .tuple #[slv 4 0 ((layF (([] ++ [(⟨1, (numS x.epoch).1⟩ : Field)]) ++ [(⟨2, (strOf ((putE x.entry).1))⟩ : Field)]) 0 []).1.length) ((layF (([] ++ [(⟨1, (numS x.epoch).1⟩ : Field)]) ++ [(⟨2, (strOf ((putE x.entry).1))⟩ : Field)]) 0 []).1.length), .int .i64 (((layF (([] ++ [(⟨1, (numS x.epoch).1⟩ : Field)]) ++ [(⟨2, (strOf ((putE x.entry).1))⟩ : Field)]) 0 []).2))]) rfl (by kernel_rfl) rfl rfl (by decide) (by simp [keptB, rowB]) ⟨⟨rfl, rfl, rfl, by first | omega | exact Nat.le_refl _ | exact Nat.zero_le _ | (dsimp only; omega), by first | omega | exact Nat.le_refl _ | exact Nat.zero_le _ | (dsimp only; omega)⟩, rfl, trivial⟩
  refine r_callP ((ewithin_ok (G := G) x.epoch 1 900000000).res (congrArg Value.bool (withinB_f (by omega)))) (vals := [.int .i64 x.epoch, .int .i64 1, .int .i64 900000000]) (res' := .bool false) rfl rfl rfl rfl rfl rfl ?_
  refine r_un (v := .bool true) (vx := .bool false) rfl rfl rfl un_not ?_
  refine r_pick (v := .bool true) rfl rfl rfl ?_
  refine r_doneN (x_then (c_true rfl (c_seq (c_reg ?_))))
  refine r_assign (v := .slice none 0 0) rfl rfl rfl ?_
  refine r_assign (v := .int .i64 60) rfl rfl rfl ?_
  refine r_doneN (x_then ?_)
  refine c_weak (Weak.nilTmp (i := 2) (b := 2) true 1 rfl (by decide) rfl) ?_
  refine c_ret (x_thenR (x_end ?_))
  rw [show putI x = ([], 60) from if_neg (fun q => by have q1 := q.1; have q2 := q.2.1; first | omega | (have := putE_0 q.2.2; omega))]
  exact end_map [2] (v := .tuple #[slv 2 0 0 0, .int .i64 60]) rfl (by kernel_rfl) rfl rfl (by decide) (by simp [keptB, rowB]) ⟨⟨rfl, rfl, rfl, by first | omega | exact Nat.le_refl _ | exact Nat.zero_le _ | (dsimp only; omega), by first | omega | exact Nat.le_refl _ | exact Nat.zero_le _ | (dsimp only; omega)⟩, rfl, trivial⟩
  refine r_callP ((ewithin_ok (G := G) x.epoch 1 900000000).res (congrArg Value.bool (withinB_f (by omega)))) (vals := [.int .i64 x.epoch, .int .i64 1, .int .i64 900000000]) (res' := .bool false) rfl rfl rfl rfl rfl rfl ?_
  refine r_un (v := .bool true) (vx := .bool false) rfl rfl rfl un_not ?_
  refine r_pick (v := .bool true) rfl rfl rfl ?_
  refine r_doneN (x_then (c_true rfl (c_seq (c_reg ?_))))
  refine r_assign (v := .slice none 0 0) rfl rfl rfl ?_
  refine r_assign (v := .int .i64 60) rfl rfl rfl ?_
  refine r_doneN (x_then ?_)
  refine c_weak (Weak.nilTmp (i := 2) (b := 2) true 1 rfl (by decide) rfl) ?_
  refine c_ret (x_thenR (x_end ?_))
  rw [show putI x = ([], 60) from if_neg (fun q => by have q1 := q.1; have q2 := q.2.1; first | omega | (have := putE_0 q.2.2; omega))]
  exact end_map [2] (v := .tuple #[slv 2 0 0 0, .int .i64 60]) rfl (by kernel_rfl) rfl rfl (by decide) (by simp [keptB, rowB]) ⟨⟨rfl, rfl, rfl, by first | omega | exact Nat.le_refl _ | exact Nat.zero_le _ | (dsimp only; omega), by first | omega | exact Nat.le_refl _ | exact Nat.zero_le _ | (dsimp only; omega)⟩, rfl, trivial⟩
theorem shaLeaf_ok (kk : Nat → BitVec 32) (hG : G 1 = some (rowE w32 64 kk)) (s : ByteArray) (hs : s.size ≤ 1000000) : CallL Tryd.prog G 115 [.string s] [] (dgV (lfT kk s)) [] := by
  refine walk (fn := Tryd.f115) (nt := 6) rfl rfl rfl rfl ?_
  refine c_hole 2 (H' := [hole, hole]) rfl ?_
  refine c_seq (c_reg ?_)
  refine r_alloc (b := dgB dz) (nid := 0) (H' := [dgB dz, hole]) rfl rfl (by kernel_rfl) (by kernel_rfl) ?_
  refine r_doneN (x_then (c_seq (c_reg ?_)))
  refine r_move (v := .string s) rfl rfl rfl ?_
  refine r_lit (vs := [(0, .string zero1), (1, .string s)]) (v := slv 1 0 2 2) (blk := txB [zero1, s]) (nid := 1) (H' := [dgB dz, txB [zero1, s]]) rfl rfl rfl (by kernel_rfl) (by kernel_rfl) ?_
  refine r_callN (e := [some (1, 0)]) (nid := 0) (Of_ok (G := G) kk hG [zero1, s] 2 (by simp) (by intro x hx; simp at hx; rcases hx with rfl | rfl <;> first | omega | (show 1 ≤ _; omega))) (vals := [slv 1 0 2 2]) (v := dgV (shaOf kk (msgOf [zero1, s]))) (H' := [dgB dz, txB [zero1, s]]) rfl rfl rfl rfl rfl rfl rfl ⟨⟨⟨rfl, rfl, rfl, by first | omega | exact Nat.le_refl _, by first | omega | exact Nat.le_refl _⟩, trivial⟩, ⟨(emb_tx rfl), trivial⟩, rfl, rfl, rfl⟩ (by kernel_rfl) (by kernel_rfl) ?_
  refine r_store (p := pt 0 0) (v := dgV (shaOf kk (msgOf [zero1, s]))) (b := 0) (blk := dgB (shaOf kk (msgOf [zero1, s]))) (H' := [dgB (shaOf kk (msgOf [zero1, s])), txB [zero1, s]]) rfl rfl rfl (by kernel_rfl) (by kernel_rfl) ?_
  refine r_doneN (x_then (c_ret (x_end ?_)))
  exact end_same (v := dgV (shaOf kk (msgOf [zero1, s]))) (by kernel_rfl) rfl rfl (by kernel_rfl) (argV_pure (pure_row fun _ => rfl) rfl)
theorem Leaf_ok (kk : Nat → BitVec 32) (hG : G 1 = some (rowE w32 64 kk)) (x : Item) : CallL Tryd.prog G 100 [itemV x] [] (.tuple #[dgV (leafI kk x).1, .int .i64 (leafI kk x).2]) [] := by
  refine walk (fn := Tryd.f100) (nt := 18) rfl rfl rfl rfl ?_
  refine c_hole 3 (H' := [hole, hole, hole]) rfl ?_
  refine c_seq (c_reg ?_)
  refine r_box (v := itemV x) (b := bxB 110 (itemC x)) (nid := 0) (H' := [bxB 110 (itemC x), hole, hole]) rfl rfl rfl (by kernel_rfl) (by kernel_rfl) ?_
  refine r_alloc (b := dgB dz) (nid := 1) (H' := [bxB 110 (itemC x), dgB dz, hole]) rfl rfl (by kernel_rfl) (by kernel_rfl) ?_
  refine r_assign (v := .int .i64 0) rfl rfl rfl ?_
  refine r_doneN (x_then (c_seq (c_reg ?_)))
  refine r_load (p := pt 0 0) (v := itemV x) rfl rfl rfl (by kernel_rfl) ?_
  refine r_callN (e := []) (nid := 2) (PutItem_ok (G := G) x) (vals := [itemV x]) (v := .tuple #[slv 2 0 ((putI x).1.length) ((putI x).1.length), .int .i64 (((putI x).2))]) (H' := [bxB 110 (itemC x), dgB dz, rowB ((putI x).1)]) rfl rfl rfl rfl rfl rfl rfl ⟨⟨rfl, trivial⟩, trivial, rfl, rfl, rfl⟩ (by kernel_rfl) (by kernel_rfl) ?_
  refine r_move (v := .tuple #[slv 2 0 ((putI x).1.length) ((putI x).1.length), .int .i64 (((putI x).2))]) rfl rfl rfl ?_
  refine r_extract (vs := #[slv 2 0 ((putI x).1.length) ((putI x).1.length), .int .i64 (((putI x).2))]) (v := slv 2 0 ((putI x).1.length) ((putI x).1.length)) rfl rfl rfl rfl ?_
  refine r_extract (vs := #[slv 2 0 ((putI x).1.length) ((putI x).1.length), .int .i64 (((putI x).2))]) (v := .int .i64 (((putI x).2))) rfl rfl rfl rfl ?_
  refine r_assign (v := slv 2 0 ((putI x).1.length) ((putI x).1.length)) rfl rfl rfl ?_
  refine r_assign (v := .int .i64 (((putI x).2))) rfl rfl rfl ?_
  refine r_doneN (x_then (c_seq (c_seq (c_reg ?_))))
  refine r_move (v := .int .i64 (((putI x).2))) rfl rfl rfl ?_
  by_cases h1 : (((putI x).2)) ≠ 0
  refine r_bin (v := .bool true) (vx := .int .i64 (((putI x).2))) (vy := .int .i64 0) rfl rfl rfl rfl (neq_t (by omega)) ?_
  refine r_doneN (x_then (c_true rfl (c_seq (c_reg ?_))))
  refine r_build (vs := []) (v := dgV dz) rfl rfl rfl (by kernel_rfl) ?_
  refine r_move (v := .int .i64 (((putI x).2))) rfl rfl rfl ?_
  refine r_store (p := pt 1 0) (v := dgV dz) (b := 1) (blk := dgB dz) (H' := [bxB 110 (itemC x), dgB dz, rowB ((putI x).1)]) rfl rfl rfl (by kernel_rfl) (by kernel_rfl) ?_
  refine r_assign (v := .int .i64 (((putI x).2))) rfl rfl rfl ?_
  refine r_doneN (x_then (c_ret (x_thenR (x_end ?_))))
  rw [show leafI kk x = (dz, (putI x).2) from by rw [putI_2 (by omega)]; exact if_neg (fun q => by have := putI_0 q; omega)]
  exact end_same (v := .tuple #[dgV dz, .int .i64 (((putI x).2))]) (by kernel_rfl) rfl rfl (by kernel_rfl) ⟨(argV_pure (pure_row fun _ => rfl) rfl), rfl, trivial⟩
  refine r_bin (v := .bool false) (vx := .int .i64 (((putI x).2))) (vy := .int .i64 0) rfl rfl rfl rfl (neq_f (by omega)) ?_
  refine r_doneN (x_then (c_false rfl (c_skip (x_then (c_seq (c_reg ?_))))))
  refine r_move (v := slv 2 0 ((putI x).1.length) ((putI x).1.length)) rfl rfl rfl ?_
  refine r_str (p := slv 2 0 ((putI x).1.length) ((putI x).1.length)) (v := .string (strOf ((putI x).1))) rfl rfl rfl (str_whole rfl rfl rfl rfl rfl (by omega)) ?_
  refine r_callP (shaLeaf_ok (G := G) kk hG (strOf ((putI x).1)) (by rw [strOf_size]; have := putI_len x; omega)) (vals := [.string (strOf ((putI x).1))]) (res' := dgV (lfT kk (strOf ((putI x).1)))) rfl rfl rfl rfl rfl (by kernel_rfl) ?_
  refine r_store (p := pt 1 0) (v := dgV (lfT kk (strOf ((putI x).1)))) (b := 1) (blk := dgB (lfT kk (strOf ((putI x).1)))) (H' := [bxB 110 (itemC x), dgB (lfT kk (strOf ((putI x).1))), rowB ((putI x).1)]) rfl rfl rfl (by kernel_rfl) (by kernel_rfl) ?_
  refine r_assign (v := .int .i64 0) rfl rfl rfl ?_
  refine r_doneN (x_then (c_ret (x_end ?_)))
  rw [show leafI kk x = (lfT kk (strOf (putI x).1), 0) from if_pos (putI_1 (by omega))]
  exact end_same (v := .tuple #[dgV (lfT kk (strOf ((putI x).1))), .int .i64 0]) (by kernel_rfl) rfl rfl (by kernel_rfl) ⟨(argV_pure (pure_row fun _ => rfl) rfl), rfl, trivial⟩
end Go.Flat
