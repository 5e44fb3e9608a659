/- Walks and plain laws: what each theorem says, within the bounds that it names. -/
import Derived.Test.YtnifcpffloojcaaDoorR3
import Derived.Test.YtnifcpffloojcaaDoorH8
set_option linter.unusedVariables false
set_option linter.unusedSimpArgs false
set_option maxRecDepth 20000
namespace Go.Flat
open Go.Proofs
variable {G : Glob}
def may1 (k : Int) (s : ByteArray) : Int :=
  if k < 1 then 1 else
  if 255 < k then 1 else
  if 65536 < (s.size : Nat) then 2 else
  0
theorem refMay1_ok (k : Int) (s : ByteArray) : CallL Tryd.prog G 119 [.int .i64 k, .string s] [] (.int .i64 (may1 k s)) [] := by
  refine walk (fn := Tryd.f119) (nt := 14) rfl rfl rfl rfl ?_
  refine c_seq (c_reg ?_)
  refine r_assign (v := .int .i64 0) rfl rfl rfl ?_
  refine r_doneN (x_then (c_seq (c_seq (c_reg ?_))))
  refine r_move (v := .int .i64 k) rfl rfl rfl ?_
  by_cases h1 : k < 1
  refine r_bin (v := .bool true) (vx := .int .i64 k) (vy := .int .i64 1) rfl rfl rfl rfl (lss_t (by omega)) ?_
  refine r_move (v := .bool true) rfl rfl rfl ?_
  refine r_skip rfl rfl (r_skip rfl rfl ?_)
  refine r_pick (v := .bool true) rfl rfl rfl ?_
  refine r_doneN (x_then (c_true rfl (c_seq (c_reg ?_))))
  refine r_assign (v := .int .i64 1) rfl rfl rfl ?_
  refine r_doneN (x_then (c_ret (x_thenR (x_end ?_))))
  rw [show may1 k s = 1 from by unfold may1; rw [if_pos h1]]
  exact end_same (v := .int .i64 1) rfl rfl rfl (by kernel_rfl) rfl
  refine r_bin (v := .bool false) (vx := .int .i64 k) (vy := .int .i64 1) rfl rfl rfl rfl (lss_f (by omega)) ?_
  refine r_move (v := .bool false) rfl rfl rfl ?_
  refine r_move (v := .int .i64 k) rfl rfl rfl ?_
  by_cases h2 : 255 < k
  refine r_bin (v := .bool true) (vx := .int .i64 k) (vy := .int .i64 255) rfl rfl rfl rfl (gtr_t (by omega)) ?_
  refine r_pick (v := .bool true) rfl rfl rfl ?_
  refine r_doneN (x_then (c_true rfl (c_seq (c_reg ?_))))
  refine r_assign (v := .int .i64 1) rfl rfl rfl ?_
  refine r_doneN (x_then (c_ret (x_thenR (x_end ?_))))
  rw [show may1 k s = 1 from by unfold may1; rw [if_neg h1, if_pos h2]]
  exact end_same (v := .int .i64 1) rfl rfl rfl (by kernel_rfl) rfl
  refine r_bin (v := .bool false) (vx := .int .i64 k) (vy := .int .i64 255) rfl rfl rfl rfl (gtr_f (by omega)) ?_
  refine r_pick (v := .bool false) rfl rfl rfl ?_
  refine r_doneN (x_then (c_false rfl (c_skip (x_then (c_seq (c_seq (c_reg ?_)))))))
  refine r_move (v := .string s) rfl rfl rfl ?_
  refine r_len (p := .string s) (v := .int .i64 (s.size : Nat)) rfl rfl rfl rfl ?_
  by_cases h3 : 65536 < (s.size : Nat)
  refine r_bin (v := .bool true) (vx := .int .i64 (s.size : Nat)) (vy := .int .i64 65536) rfl rfl rfl rfl (gtr_t (by omega)) ?_
  refine r_doneN (x_then (c_true rfl (c_seq (c_reg ?_))))
  refine r_assign (v := .int .i64 2) rfl rfl rfl ?_
  refine r_doneN (x_then (c_ret (x_thenR (x_end ?_))))
  rw [show may1 k s = 2 from by unfold may1; rw [if_neg h1, if_neg h2, if_pos h3]]
  exact end_same (v := .int .i64 2) rfl rfl rfl (by kernel_rfl) rfl
  refine r_bin (v := .bool false) (vx := .int .i64 (s.size : Nat)) (vy := .int .i64 65536) rfl rfl rfl rfl (gtr_f (by omega)) ?_
  refine r_doneN (x_then (c_false rfl (c_skip (x_then (c_seq (c_reg ?_))))))
  refine r_assign (v := .int .i64 0) rfl rfl rfl ?_
  refine r_doneN (x_then (c_ret (x_end ?_)))
  rw [show may1 k s = 0 from by unfold may1; rw [if_neg h1, if_neg h2, if_neg h3]]
  exact end_same (v := .int .i64 0) rfl rfl rfl (by kernel_rfl) rfl
theorem layF_good {fs : List Field} {i : Nat} {last : Int} {acc : Bs} (hR : layF (fs.drop i) last acc = layF fs 0 []) (hi : i < fs.length) (hok : (layF fs 0 []).2 = 0) : mayE (fs.getD i default) last = 0 := by
  refine Decidable.byContradiction fun q => ?_
  have := layF_bad hR hi q
  rw [this] at hok
  exact q hok
theorem may1_of {f : Field} {last : Int} (hl : 0 ≤ last) (h : mayE f last = 0) : may1 f.tag f.data = 0 ∧ last < f.tag ∧ f.data.size ≤ 65536 := by
  unfold mayE at h
  split at h
  · omega
  · split at h
    · omega
    · split at h
      · omega
      · exact ⟨by unfold may1; rw [if_neg (by omega), if_neg (by omega), if_neg (by omega)], by omega, by omega⟩
def claimL (c : Claim) : List ByteArray := [(numS c.region).1, (numS c.epoch).1, (numS c.node).1, (numS c.size).1, strOf (dgL c.root)]
theorem claimL_sz (c : Claim) : ∀ x, x ∈ claimL c → x.size ≤ 65536 := by
  intro x hx
  have h1 := numS_size c.region
  have h2 := numS_size c.epoch
  have h3 := numS_size c.node
  have h4 := numS_size c.size
  simp only [claimL, List.mem_cons, List.not_mem_nil, or_false] at hx
  rcases hx with rfl | rfl | rfl | rfl | rfl
  all_goals first | omega | (rw [strOf_size, dgL_len]; omega)
theorem itemL_sz (x : Item) : ∀ y, y ∈ [(numS x.epoch).1, strOf (putE x.entry).1] → y.size ≤ 65536 := by
  intro y hy
  have h1 := numS_size x.epoch
  have h2 := putE_len x.entry
  simp only [List.mem_cons, List.not_mem_nil, or_false] at hy
  rcases hy with rfl | rfl
  · omega
  · rw [strOf_size]; omega
theorem right_claim {e : Entry} (h : rightE e) (hk : e.kind = 3) : rightC e.claim := by
  rcases h with q | q | q
  · have := q.1; omega
  · have := q.1; omega
  · exact q.2.2.2.2.2
theorem right_head {e : Entry} (h : rightE e) (hk : e.kind = 2) : mayS e.head := by
  rcases h with q | q | q
  · have := q.1; omega
  · exact q.2.2.2.2.1
  · have := q.1; omega
theorem entF_len (e : Entry) : (entF e).length ≤ 4 := by
  unfold entF
  split
  · exact Nat.le_refl _
  · split <;> exact (by simp)
theorem lfT_bl (kk : Nat → BitVec 32) (s : ByteArray) : lfT kk s = shaOf kk (bl (zero1 ++ s)) := by
  unfold lfT msgOf
  rw [bl_append]; simp
theorem refBS_ok (s : Signed) (h : mayS s) : CallL Tryd.prog G 120 [signedV s] [] (slv 0 0 (putSF s).1.length (putSF s).1.length) [rowB (putSF s).1] := by
  have q := refBytesSigned_ok (G := G) s h.1 h.2.1 h.2.2
  rw [show (putSF s).1 = bytesR (signedL s) from by rw [putSF_pos h]]; exact q
theorem refLay_ok (fs : List Field) (n c : Nat) (hn : fs.length = n) (hc : n ≤ c) (hb : n ≤ 1000) (hok : (layF fs 0 []).2 = 0) : CallL Tryd.prog G 115 [slv 0 0 n c] [rwR cFd fs] (.tuple #[slv 1 0 (layF fs 0 []).1.length (layF fs 0 []).1.length, .int .i64 0]) [rwR cFd fs, rowB (layF fs 0 []).1] := by
  refine walk (fn := Tryd.f115) (nt := 56) rfl rfl rfl rfl ?_
  refine c_hole 1 (H' := [rwR cFd fs, hole]) rfl ?_
  refine c_seq (c_reg ?_)
  refine r_assign (v := .slice none 0 0) rfl rfl rfl ?_
  refine r_assign (v := .int .i64 0) rfl rfl rfl ?_
  refine r_doneN (x_then (c_seq (c_reg ?_)))
  refine r_assign (v := .slice none 0 0) rfl rfl rfl ?_
  refine r_doneN (x_then (c_seq ?_))
  refine c_weak (Weak.nilTmp (i := 4) (b := 1) true 1 rfl (by decide) rfl) ?_
  refine c_reg ?_
  refine r_assign (v := .int .i64 0) rfl rfl rfl ?_
  refine r_doneN (x_then (c_seq (c_seq (c_reg ?_))))
  refine r_assign (v := .int .i64 0) rfl rfl rfl ?_
  refine r_doneN (x_then (c_block ?_))
  refine c_loopN (fun x : Nat × Int × Bs => match x with | (i, last, acc) => [slv 0 0 n c, dead, dead, dead, slv 1 0 acc.length acc.length, .int .i64 last, .int .i64 (i : Nat)]) (fun x : Nat × Int × Bs => match x with | (i, last, acc) => [rwR cFd fs, rowB acc]) (fun x : Nat × Int × Bs => match x with | (i, last, acc) => layF (fs.drop i) last acc = layF fs 0 [] ∧ i ≤ n ∧ acc.length ≤ i * 65540 ∧ 0 ≤ last) (fun x : Nat × Int × Bs => match x with | (i, last, acc) => n - i) (0, 0, []) ⟨rfl, by omega, by simp, Int.le_refl _⟩ ?_ ?_
  · refine weak_to (n := 2) rfl ?_ (by kernel_rfl) (by kernel_rfl)
    repeat (first | exact trivial | refine ⟨.inl rfl, ?_⟩ | refine ⟨.inr ⟨rfl, rfl⟩, ?_⟩ | refine ⟨.inr ⟨congrArg (Value.int .i64) (by first | omega | (dsimp only; omega)), rfl⟩, ?_⟩)
  rintro ⟨i, last, acc⟩ ⟨hR, hi, ha, hl0⟩
  dsimp only at *
  refine c_hole 3 (H' := [rwR cFd fs, rowB acc, hole, hole, hole]) rfl ?_
  have ha2 : acc.length ≤ 65540000 := by omega
  refine c_seq (c_seq (c_reg ?_))
  refine r_move (v := .int .i64 (i : Nat)) rfl rfl rfl ?_
  refine r_move (v := slv 0 0 n c) rfl rfl rfl ?_
  refine r_len (p := slv 0 0 n c) (v := .int .i64 (n : Nat)) rfl rfl rfl rfl ?_
  by_cases h1 : (i : Nat) < (n : Nat)
  refine r_bin (v := .bool true) (vx := .int .i64 (i : Nat)) (vy := .int .i64 (n : Nat)) rfl rfl rfl rfl (lss_t (by omega)) ?_
  refine r_doneN (x_then (c_true rfl (c_skip (x_then (c_seq (c_block (c_seq ?_)))))))
  have hm := layF_good hR (by omega) hok
  obtain ⟨hm1, hm2, hsz⟩ := may1_of hl0 hm
  refine c_drawK (by kernel_rfl) ?_
  refine r_move (v := slv 0 0 n c) rfl rfl rfl ?_
  refine r_move (v := .int .i64 (i : Nat)) rfl rfl rfl ?_
  refine r_idxS (b := 0) (o := 0) (j := i * 2) (m := n) (c := c) (sz := 2) (i := (i : Nat)) (k := .i64) rfl rfl rfl rfl rfl (by omega) (by omega) (by omega) ?_
  refine r_fieldAddr (b := 0) (o := i * 2) (n := 0) (o' := i * 2) rfl rfl rfl rfl (by omega) ?_
  refine r_load (p := pt 0 (i * 2)) (v := .int .i64 (((fs.getD i default).tag))) rfl rfl rfl (load_fld1 cFd (l := fs) (i := i) (k := 0) (m := 2) rfl rfl rfl rfl (by have := hn; omega) (by omega) (by kernel_rfl) rfl) ?_
  refine r_move (v := slv 0 0 n c) rfl rfl rfl ?_
  refine r_move (v := .int .i64 (i : Nat)) rfl rfl rfl ?_
  refine r_idxS (b := 0) (o := 0) (j := i * 2) (m := n) (c := c) (sz := 2) (i := (i : Nat)) (k := .i64) rfl rfl rfl rfl rfl (by omega) (by omega) (by omega) ?_
  refine r_fieldAddr (b := 0) (o := i * 2) (n := 1) (o' := i * 2 + 1) rfl rfl rfl rfl (by omega) ?_
  refine r_load (p := pt 0 (i * 2 + 1)) (v := .string ((fs.getD i default).data)) rfl rfl rfl (load_fld1 cFd (l := fs) (i := i) (k := 1) (m := 2) rfl rfl rfl rfl (by have := hn; omega) (by omega) (by kernel_rfl) rfl) ?_
  refine r_callP (refMay1_ok (G := G) (((fs.getD i default).tag)) ((fs.getD i default).data)) (vals := [.int .i64 (((fs.getD i default).tag)), .string ((fs.getD i default).data)]) (res' := .int .i64 ((may1 (((fs.getD i default).tag)) ((fs.getD i default).data)))) rfl rfl rfl rfl rfl rfl ?_
  refine r_assign (v := .int .i64 ((may1 (((fs.getD i default).tag)) ((fs.getD i default).data)))) rfl rfl rfl ?_
  refine r_doneK (drawnTK_ok [[], [], [0, 1], [0, 1, 2], [0, 1, 2, 3], [], [], [5, 6], [5, 6, 7], [5, 6, 7, 8], [0, 1, 2, 3, 4, 5, 6, 7, 8, 9], [0, 1, 2, 3, 4, 5, 6, 7, 8, 9, 10]] (by kernel_rfl) (by kernel_rfl)) ?_
  refine x_then (c_seq (c_seq (c_reg ?_)))
  refine r_move (v := slv 0 0 n c) rfl rfl rfl ?_
  refine r_move (v := .int .i64 (i : Nat)) rfl rfl rfl ?_
  refine r_idxS (b := 0) (o := 0) (j := i * 2) (m := n) (c := c) (sz := 2) (i := (i : Nat)) (k := .i64) rfl rfl rfl rfl rfl (by omega) (by omega) (by omega) ?_
  refine r_fieldAddr (b := 0) (o := i * 2) (n := 0) (o' := i * 2) rfl rfl rfl rfl (by omega) ?_
  refine r_load (p := pt 0 (i * 2)) (v := .int .i64 (((fs.getD i default).tag))) rfl rfl rfl (load_fld1 cFd (l := fs) (i := i) (k := 0) (m := 2) rfl rfl rfl rfl (by have := hn; omega) (by omega) (by kernel_rfl) rfl) ?_
  refine r_move (v := .int .i64 last) rfl rfl rfl ?_
  refine r_bin (v := .bool false) (vx := .int .i64 (((fs.getD i default).tag))) (vy := .int .i64 last) rfl rfl rfl rfl (leq_f (by omega)) ?_
  refine r_doneN (x_then (c_false rfl (c_skip (x_then (c_seq (c_seq (c_reg ?_)))))))
  refine r_move (v := .int .i64 ((may1 (((fs.getD i default).tag)) ((fs.getD i default).data)))) rfl rfl rfl ?_
  refine r_bin (v := .bool false) (vx := .int .i64 ((may1 (((fs.getD i default).tag)) ((fs.getD i default).data)))) (vy := .int .i64 0) rfl rfl rfl rfl (neq_f (by omega)) ?_
  refine r_doneN (x_then (c_false rfl (c_skip (x_then (c_seq ?_)))))
  refine c_drawK (by kernel_rfl) ?_
  refine r_move (v := slv 0 0 n c) rfl rfl rfl ?_
  refine r_move (v := .int .i64 (i : Nat)) rfl rfl rfl ?_
  refine r_idxS (b := 0) (o := 0) (j := i * 2) (m := n) (c := c) (sz := 2) (i := (i : Nat)) (k := .i64) rfl rfl rfl rfl rfl (by omega) (by omega) (by omega) ?_
  refine r_fieldAddr (b := 0) (o := i * 2) (n := 0) (o' := i * 2) rfl rfl rfl rfl (by omega) ?_
  refine r_load (p := pt 0 (i * 2)) (v := .int .i64 (((fs.getD i default).tag))) rfl rfl rfl (load_fld1 cFd (l := fs) (i := i) (k := 0) (m := 2) rfl rfl rfl rfl (by have := hn; omega) (by omega) (by kernel_rfl) rfl) ?_
  refine r_move (v := slv 0 0 n c) rfl rfl rfl ?_
  refine r_move (v := .int .i64 (i : Nat)) rfl rfl rfl ?_
  refine r_idxS (b := 0) (o := 0) (j := i * 2) (m := n) (c := c) (sz := 2) (i := (i : Nat)) (k := .i64) rfl rfl rfl rfl rfl (by omega) (by omega) (by omega) ?_
  refine r_fieldAddr (b := 0) (o := i * 2) (n := 1) (o' := i * 2 + 1) rfl rfl rfl rfl (by omega) ?_
  refine r_load (p := pt 0 (i * 2 + 1)) (v := .string ((fs.getD i default).data)) rfl rfl rfl (load_fld1 cFd (l := fs) (i := i) (k := 1) (m := 2) rfl rfl rfl rfl (by have := hn; omega) (by omega) (by kernel_rfl) rfl) ?_
  refine r_callN (e := []) (nid := 2) (refFld_ok (G := G) (((fs.getD i default).tag)) ((fs.getD i default).data) (by omega)) (vals := [.int .i64 (((fs.getD i default).tag)), .string ((fs.getD i default).data)]) (v := slv 2 0 ((((fs.getD i default).data).size) + 4) ((((fs.getD i default).data).size) + 4)) (H' := [rwR cFd fs, rowB acc, rowB (fldB ⟨(((fs.getD i default).tag)), (fs.getD i default).data⟩), hole, hole]) rfl rfl rfl rfl rfl rfl rfl ⟨⟨rfl, rfl, trivial⟩, trivial, rfl, rfl, rfl⟩ (by kernel_rfl) (by kernel_rfl) ?_
  refine r_assign (v := slv 2 0 ((((fs.getD i default).data).size) + 4) ((((fs.getD i default).data).size) + 4)) rfl rfl rfl ?_
  refine r_doneK (drawnTK_ok [[], [], [0, 1], [0, 1, 2], [0, 1, 2, 3], [], [], [5, 6], [5, 6, 7], [5, 6, 7, 8], [0, 1, 2, 3, 4, 5, 6, 7, 8, 9], [0, 1, 2, 3, 4, 5, 6, 7, 8, 9, 10]] (by kernel_rfl) (by kernel_rfl)) ?_
  refine x_then (c_seq (c_reg ?_))
  refine r_move (v := slv 1 0 acc.length acc.length) rfl rfl rfl ?_
  refine r_move (v := slv 2 0 ((((fs.getD i default).data).size) + 4) ((((fs.getD i default).data).size) + 4)) rfl rfl rfl ?_
  have hl2 : (acc ++ (fldB ⟨(((fs.getD i default).tag)), (fs.getD i default).data⟩)).length = acc.length + (((fs.getD i default).data).size) + 4 := by have := (fldB_len' (((fs.getD i default).tag)) ((fs.getD i default).data)); first | (rw [List.length_append]; omega) | (simp; omega) | simp
  refine r_append (p := slv 1 0 acc.length acc.length) (q := slv 2 0 ((((fs.getD i default).data).size) + 4) ((((fs.getD i default).data).size) + 4)) (v := slv 1 0 ((acc ++ (fldB ⟨(((fs.getD i default).tag)), (fs.getD i default).data⟩)).length) ((acc ++ (fldB ⟨(((fs.getD i default).tag)), (fs.getD i default).data⟩)).length)) (b := 1) (blk := rowB (acc ++ (fldB ⟨(((fs.getD i default).tag)), (fs.getD i default).data⟩))) (H' := [rwR cFd fs, rowB (acc ++ (fldB ⟨(((fs.getD i default).tag)), (fs.getD i default).data⟩)), rowB (fldB ⟨(((fs.getD i default).tag)), (fs.getD i default).data⟩), hole, hole]) rfl rfl rfl (.inl ⟨_, rfl⟩) rfl rfl (appD_row (by_ := 1) (n' := ((acc ++ (fldB ⟨(((fs.getD i default).tag)), (fs.getD i default).data⟩)).length)) rfl rfl (srcA_byW rfl rfl (by have := (fldB_len' (((fs.getD i default).tag)) ((fs.getD i default).data)); omega)) rfl rfl (by omega) (by omega) (by decide) (by omega)) rfl (by kernel_rfl) ?_
  refine r_assign (v := slv 1 0 ((acc ++ (fldB ⟨(((fs.getD i default).tag)), (fs.getD i default).data⟩)).length) ((acc ++ (fldB ⟨(((fs.getD i default).tag)), (fs.getD i default).data⟩)).length)) rfl rfl rfl ?_
  refine r_doneN (x_then (c_reg ?_))
  refine r_move (v := slv 0 0 n c) rfl rfl rfl ?_
  refine r_move (v := .int .i64 (i : Nat)) rfl rfl rfl ?_
  refine r_idxS (b := 0) (o := 0) (j := i * 2) (m := n) (c := c) (sz := 2) (i := (i : Nat)) (k := .i64) rfl rfl rfl rfl rfl (by omega) (by omega) (by omega) ?_
  refine r_fieldAddr (b := 0) (o := i * 2) (n := 0) (o' := i * 2) rfl rfl rfl rfl (by omega) ?_
  refine r_load (p := pt 0 (i * 2)) (v := .int .i64 (((fs.getD i default).tag))) rfl rfl rfl (load_fld1 cFd (l := fs) (i := i) (k := 0) (m := 2) rfl rfl rfl rfl (by have := hn; omega) (by omega) (by kernel_rfl) rfl) ?_
  refine r_assign (v := .int .i64 (((fs.getD i default).tag))) rfl rfl rfl ?_
  refine r_doneN (x_blockN (x_then (c_reg ?_)))
  refine r_move (v := .int .i64 (i : Nat)) rfl rfl rfl ?_
  refine r_bin (v := .int .i64 ((i : Nat) + 1)) (vx := .int .i64 (i : Nat)) (vy := .int .i64 1) rfl rfl rfl rfl (bin_add (by omega) (by omega) (by omega)) ?_
  refine r_assign (v := .int .i64 ((i : Nat) + 1)) rfl rfl rfl ?_
  refine r_doneN ?_
  refine x_round ⟨((i + 1), (((fs.getD i default).tag)), (acc ++ (fldB ⟨(((fs.getD i default).tag)), (fs.getD i default).data⟩))), ⟨layF_step hR (by omega) hm, by dsimp only; omega, by rw [List.length_append, fldB_len]; dsimp only; omega, by dsimp only; omega⟩, by show n - (i + 1) < n - i; omega, ?_⟩
  refine weak_to (n := 2) rfl ?_ (by kernel_rfl) (by kernel_rfl)
  repeat (first | exact trivial | refine ⟨.inl rfl, ?_⟩ | refine ⟨.inr ⟨rfl, rfl⟩, ?_⟩ | refine ⟨.inr ⟨congrArg (Value.int .i64) (by first | omega | (dsimp only; omega)), rfl⟩, ?_⟩)
  refine r_bin (v := .bool false) (vx := .int .i64 (i : Nat)) (vy := .int .i64 (n : Nat)) rfl rfl rfl rfl (lss_f (by omega)) ?_
  refine r_doneN (x_then (c_false rfl (c_exit (x_thenE (x_leaveE (x_block rfl (x_then (c_seq (c_reg ?_)))))))))
  refine r_move (v := slv 1 0 acc.length acc.length) rfl rfl rfl ?_
  refine r_assign (v := slv 1 0 acc.length acc.length) rfl rfl rfl ?_
  refine r_assign (v := .int .i64 0) rfl rfl rfl ?_
  refine r_doneN (x_then (c_ret (x_end ?_)))
  rw [show layF fs 0 [] = (acc, 0) from by rw [← hR, List.drop_of_length_le (by omega)]; rfl]
  exact end_map [0, 1] (v := .tuple #[slv 1 0 acc.length acc.length, .int .i64 0]) rfl (by kernel_rfl) rfl rfl (by decide) (by simp [keptB, rowB, rwR, cFd]) ⟨⟨rfl, rfl, rfl, by first | omega | exact Nat.le_refl _ | exact Nat.zero_le _ | (dsimp only; omega), by first | omega | exact Nat.le_refl _ | exact Nat.zero_le _ | (dsimp only; omega)⟩, rfl, trivial⟩
theorem refClaimBytes_ok (c : Claim) (hr : rightC c) : CallL Tryd.prog G 121 [claimV c] [] (slv 0 0 (putC c).1.length (putC c).1.length) [rowB (putC c).1] := by
  unfold rightC at hr
  refine walk (fn := Tryd.f121) (nt := 20) rfl rfl rfl rfl ?_
  refine c_hole 3 (H' := [hole, hole, hole]) rfl ?_
  refine c_seq (c_reg ?_)
  refine r_box (v := claimV c) (b := bxB 36 (claimC c)) (nid := 0) (H' := [bxB 36 (claimC c), hole, hole]) rfl rfl rfl (by kernel_rfl) (by kernel_rfl) ?_
  refine r_assign (v := .slice none 0 0) rfl rfl rfl ?_
  refine r_doneN (x_then (c_seq ?_))
  refine c_drawK (by kernel_rfl) ?_
  refine r_fieldAddr (b := 0) (o := 0) (n := 0) (o' := 0) rfl rfl rfl rfl rfl ?_
  refine r_load (p := pt 0 0) (v := .int .i64 c.region) rfl rfl rfl (by kernel_rfl) ?_
  refine r_callP (refNum_ok (G := G) c.region (by omega) (by omega)) (vals := [.int .i64 c.region]) (res' := .string ((numS c.region).1)) rfl rfl rfl rfl rfl rfl ?_
  refine r_fieldAddr (b := 0) (o := 0) (n := 1) (o' := 1) rfl rfl rfl rfl rfl ?_
  refine r_load (p := pt 0 1) (v := .int .i64 c.epoch) rfl rfl rfl (by kernel_rfl) ?_
  refine r_callP (refNum_ok (G := G) c.epoch (by omega) (by omega)) (vals := [.int .i64 c.epoch]) (res' := .string ((numS c.epoch).1)) rfl rfl rfl rfl rfl rfl ?_
  refine r_fieldAddr (b := 0) (o := 0) (n := 2) (o' := 2) rfl rfl rfl rfl rfl ?_
  refine r_load (p := pt 0 2) (v := .int .i64 c.node) rfl rfl rfl (by kernel_rfl) ?_
  refine r_callP (refNum_ok (G := G) c.node (by omega) (by omega)) (vals := [.int .i64 c.node]) (res' := .string ((numS c.node).1)) rfl rfl rfl rfl rfl rfl ?_
  refine r_fieldAddr (b := 0) (o := 0) (n := 3) (o' := 3) rfl rfl rfl rfl rfl ?_
  refine r_load (p := pt 0 3) (v := .int .i64 c.size) rfl rfl rfl (by kernel_rfl) ?_
  refine r_callP (refNum_ok (G := G) c.size (by omega) (by omega)) (vals := [.int .i64 c.size]) (res' := .string ((numS c.size).1)) rfl rfl rfl rfl rfl rfl ?_
  refine r_fieldAddr (b := 0) (o := 0) (n := 4) (o' := 4) rfl rfl rfl rfl rfl ?_
  refine r_load (p := pt 0 4) (v := dgV c.root) rfl rfl rfl (by kernel_rfl) ?_
  refine r_callP (refText_ok (G := G) c.root) (vals := [dgV c.root]) (res' := .string (strOf (dgL c.root))) rfl rfl rfl rfl rfl rfl ?_
  refine r_lit (vs := [(0, .string ((numS c.region).1)), (1, .string ((numS c.epoch).1)), (2, .string ((numS c.node).1)), (3, .string ((numS c.size).1)), (4, .string (strOf (dgL c.root)))]) (v := slv 1 0 5 5) (blk := txB [(numS c.region).1, (numS c.epoch).1, (numS c.node).1, (numS c.size).1, (strOf (dgL c.root))]) (nid := 1) (H' := [bxB 36 (claimC c), txB [(numS c.region).1, (numS c.epoch).1, (numS c.node).1, (numS c.size).1, (strOf (dgL c.root))], hole]) rfl rfl rfl (by kernel_rfl) (by kernel_rfl) ?_
  refine r_callN (e := [some (1, 0)]) (nid := 2) (refRow_ok (G := G) [(numS c.region).1, (numS c.epoch).1, (numS c.node).1, (numS c.size).1, (strOf (dgL c.root))] 5 5 (by rfl) (by first | omega | exact Nat.le_refl _) (by omega) (claimL_sz c)) (vals := [slv 1 0 5 5]) (v := slv 2 0 ((bytesR [(numS c.region).1, (numS c.epoch).1, (numS c.node).1, (numS c.size).1, (strOf (dgL c.root))]).length) ((bytesR [(numS c.region).1, (numS c.epoch).1, (numS c.node).1, (numS c.size).1, (strOf (dgL c.root))]).length)) (H' := [bxB 36 (claimC c), txB [(numS c.region).1, (numS c.epoch).1, (numS c.node).1, (numS c.size).1, (strOf (dgL c.root))], rowB (bytesR [(numS c.region).1, (numS c.epoch).1, (numS c.node).1, (numS c.size).1, (strOf (dgL c.root))])]) rfl rfl rfl rfl rfl rfl rfl ⟨⟨⟨rfl, rfl, rfl, by first | omega | exact Nat.le_refl _, by first | omega | exact Nat.le_refl _⟩, trivial⟩, ⟨(emb_tx rfl), trivial⟩, rfl, rfl, rfl⟩ (by kernel_rfl) (by kernel_rfl) ?_
  refine r_assign (v := slv 2 0 ((bytesR [(numS c.region).1, (numS c.epoch).1, (numS c.node).1, (numS c.size).1, (strOf (dgL c.root))]).length) ((bytesR [(numS c.region).1, (numS c.epoch).1, (numS c.node).1, (numS c.size).1, (strOf (dgL c.root))]).length)) rfl rfl rfl ?_
  refine r_doneK (drawnTK_ok [[], [0], [0, 1], [], [3], [0, 1, 2, 3, 4], [], [6], [0, 1, 2, 3, 4, 5, 6, 7], [], [9], [0, 1, 2, 3, 4, 5, 6, 7, 8, 9, 10], [], [12], [0, 1, 2, 3, 4, 5, 6, 7, 8, 9, 10, 11, 12, 13], [0, 1, 2, 3, 4, 5, 6, 7, 8, 9, 10, 11, 12, 13, 14], [0, 1, 2, 3, 4, 5, 6, 7, 8, 9, 10, 11, 12, 13, 14, 15], [0, 1, 2, 3, 4, 5, 6, 7, 8, 9, 10, 11, 12, 13, 14, 15, 16]] (by kernel_rfl) (by kernel_rfl)) ?_
  refine x_then (c_ret (x_end ?_))
  rw [show (putC c).1 = bytesR (claimL c) from by rw [show putC c = _ from if_pos hr]; rfl]
  exact end_map [2] (v := slv 2 0 ((bytesR [(numS c.region).1, (numS c.epoch).1, (numS c.node).1, (numS c.size).1, (strOf (dgL c.root))]).length) ((bytesR [(numS c.region).1, (numS c.epoch).1, (numS c.node).1, (numS c.size).1, (strOf (dgL c.root))]).length)) rfl (by kernel_rfl) rfl rfl (by decide) (by simp [keptB, rowB]) ⟨rfl, rfl, rfl, by first | omega | exact Nat.le_refl _ | exact Nat.zero_le _ | (dsimp only; omega), by first | omega | exact Nat.le_refl _ | exact Nat.zero_le _ | (dsimp only; omega)⟩
theorem refFields_ok (e : Entry) (hr : rightE e) : CallL Tryd.prog G 116 [entV e] [] (slv 0 0 (entF e).length (entF e).length) [rwB cFd (entF e)] := by
  refine walk (fn := Tryd.f116) (nt := 54) rfl rfl rfl rfl ?_
  refine c_hole 5 (H' := [hole, hole, hole, hole, hole]) rfl ?_
  refine c_seq (c_reg ?_)
  refine r_box (v := entV e) (b := bxB 109 (entC e)) (nid := 0) (H' := [bxB 109 (entC e), hole, hole, hole, hole]) rfl rfl rfl (by kernel_rfl) (by kernel_rfl) ?_
  refine r_assign (v := .slice none 0 0) rfl rfl rfl ?_
  refine r_doneN (x_then (c_seq ?_))
  have hk := right_kind hr
  refine c_reg ?_
  refine r_fieldAddr (b := 0) (o := 0) (n := 0) (o' := 0) rfl rfl rfl rfl rfl ?_
  refine r_load (p := pt 0 0) (v := .int .i64 e.kind) rfl rfl rfl (by kernel_rfl) ?_
  refine r_callP (refNum_ok (G := G) e.kind (by omega) (by omega)) (vals := [.int .i64 e.kind]) (res' := .string ((numS e.kind).1)) rfl rfl rfl rfl rfl rfl ?_
  refine r_build (vs := [(0, .int .i64 1), (1, .string ((numS e.kind).1))]) (v := fdV (⟨1, (numS e.kind).1⟩ : Field)) rfl rfl rfl (by kernel_rfl) ?_
  refine r_lit (vs := [(0, fdV (⟨1, (numS e.kind).1⟩ : Field))]) (v := slv 1 0 1 1) (blk := rwB cFd [(⟨1, (numS e.kind).1⟩ : Field)]) (nid := 1) (H' := [bxB 109 (entC e), rwB cFd [(⟨1, (numS e.kind).1⟩ : Field)], hole, hole, hole]) rfl rfl rfl (by kernel_rfl) (by kernel_rfl) ?_
  refine r_assign (v := slv 1 0 1 1) rfl rfl rfl ?_
  refine r_doneN (x_then (c_seq (c_seq (c_reg ?_))))
  refine r_fieldAddr (b := 0) (o := 0) (n := 0) (o' := 0) rfl rfl rfl rfl rfl ?_
  refine r_load (p := pt 0 0) (v := .int .i64 e.kind) rfl rfl rfl (by kernel_rfl) ?_
  refine r_doneN (x_then (c_block (c_seq (c_reg ?_))))
  by_cases h1 : e.kind = 1
  refine r_bin (v := .bool true) (vx := .int .i64 e.kind) (vy := .int .i64 1) rfl rfl rfl rfl (eql_t (by omega)) ?_
  refine r_assign (v := .bool true) rfl rfl rfl ?_
  refine r_doneN (x_then (c_true rfl (c_seq ?_)))
  have hu := right_user hr (by omega)
  refine c_reg ?_
  refine r_move (v := slv 1 0 1 1) rfl rfl rfl ?_
  refine r_fieldAddr (b := 0) (o := 0) (n := 1) (o' := 1) rfl rfl rfl rfl rfl ?_
  refine r_load (p := pt 0 1) (v := .int .i64 e.client) rfl rfl rfl (by kernel_rfl) ?_
  refine r_callP (refNum_ok (G := G) e.client (by omega) (by omega)) (vals := [.int .i64 e.client]) (res' := .string ((numS e.client).1)) rfl rfl rfl rfl rfl rfl ?_
  refine r_build (vs := [(0, .int .i64 2), (1, .string ((numS e.client).1))]) (v := fdV (⟨2, (numS e.client).1⟩ : Field)) rfl rfl rfl (by kernel_rfl) ?_
  refine r_lit (vs := [(0, fdV (⟨2, (numS e.client).1⟩ : Field))]) (v := slv 2 0 1 1) (blk := rwB cFd [(⟨2, (numS e.client).1⟩ : Field)]) (nid := 2) (H' := [bxB 109 (entC e), rwB cFd [(⟨1, (numS e.kind).1⟩ : Field)], rwB cFd [(⟨2, (numS e.client).1⟩ : Field)], hole, hole]) rfl rfl rfl (by kernel_rfl) (by kernel_rfl) ?_
  have hl9 : ([(⟨1, (numS e.kind).1⟩ : Field)] ++ [(⟨2, (numS e.client).1⟩ : Field)]).length = 2 := by have : ([(⟨1, (numS e.kind).1⟩ : Field)]).length = 1 := rfl; have := (rfl : _ = 1); first | (rw [List.length_append]; omega) | (simp; omega) | simp
  refine r_append (p := slv 1 0 1 1) (q := slv 2 0 1 1) (v := slv 1 0 2 2) (b := 1) (blk := rwB cFd ([(⟨1, (numS e.kind).1⟩ : Field)] ++ [(⟨2, (numS e.client).1⟩ : Field)])) (H' := [bxB 109 (entC e), rwB cFd ([(⟨1, (numS e.kind).1⟩ : Field)] ++ [(⟨2, (numS e.client).1⟩ : Field)]), rwB cFd [(⟨2, (numS e.client).1⟩ : Field)], hole, hole]) rfl rfl rfl (.inl ⟨_, rfl⟩) rfl rfl (appD_rw cFd (by_ := 24) (k := 1) (n' := 2) (ms := [(⟨2, (numS e.client).1⟩ : Field)]) (fun _ => rfl) rfl rfl (by kernel_rfl) rfl rfl (by have : ([(⟨1, (numS e.kind).1⟩ : Field)]).length = 1 := rfl; omega) (by omega) (by decide) (by omega)) rfl (by kernel_rfl) ?_
  refine r_assign (v := slv 1 0 2 2) rfl rfl rfl ?_
  refine r_doneN (x_then (c_seq (c_reg ?_)))
  refine r_move (v := slv 1 0 2 2) rfl rfl rfl ?_
  refine r_fieldAddr (b := 0) (o := 0) (n := 2) (o' := 2) rfl rfl rfl rfl rfl ?_
  refine r_load (p := pt 0 2) (v := .int .i64 e.seq) rfl rfl rfl (by kernel_rfl) ?_
  refine r_callP (refNum_ok (G := G) e.seq (by omega) (by omega)) (vals := [.int .i64 e.seq]) (res' := .string ((numS e.seq).1)) rfl rfl rfl rfl rfl rfl ?_
  refine r_build (vs := [(0, .int .i64 3), (1, .string ((numS e.seq).1))]) (v := fdV (⟨3, (numS e.seq).1⟩ : Field)) rfl rfl rfl (by kernel_rfl) ?_
  refine r_lit (vs := [(0, fdV (⟨3, (numS e.seq).1⟩ : Field))]) (v := slv 3 0 1 1) (blk := rwB cFd [(⟨3, (numS e.seq).1⟩ : Field)]) (nid := 3) (H' := [bxB 109 (entC e), rwB cFd ([(⟨1, (numS e.kind).1⟩ : Field)] ++ [(⟨2, (numS e.client).1⟩ : Field)]), rwB cFd [(⟨2, (numS e.client).1⟩ : Field)], rwB cFd [(⟨3, (numS e.seq).1⟩ : Field)], hole]) rfl rfl rfl (by kernel_rfl) (by kernel_rfl) ?_
  have hl10 : (([(⟨1, (numS e.kind).1⟩ : Field)] ++ [(⟨2, (numS e.client).1⟩ : Field)]) ++ [(⟨3, (numS e.seq).1⟩ : Field)]).length = 3 := by have := hl9; have := (rfl : _ = 1); first | (rw [List.length_append]; omega) | (simp; omega) | simp
  refine r_append (p := slv 1 0 2 2) (q := slv 3 0 1 1) (v := slv 1 0 3 3) (b := 1) (blk := rwB cFd (([(⟨1, (numS e.kind).1⟩ : Field)] ++ [(⟨2, (numS e.client).1⟩ : Field)]) ++ [(⟨3, (numS e.seq).1⟩ : Field)])) (H' := [bxB 109 (entC e), rwB cFd (([(⟨1, (numS e.kind).1⟩ : Field)] ++ [(⟨2, (numS e.client).1⟩ : Field)]) ++ [(⟨3, (numS e.seq).1⟩ : Field)]), rwB cFd [(⟨2, (numS e.client).1⟩ : Field)], rwB cFd [(⟨3, (numS e.seq).1⟩ : Field)], hole]) rfl rfl rfl (.inl ⟨_, rfl⟩) rfl rfl (appD_rw cFd (by_ := 24) (k := 1) (n' := 3) (ms := [(⟨3, (numS e.seq).1⟩ : Field)]) (fun _ => rfl) rfl rfl (by kernel_rfl) rfl rfl (by have := hl9; omega) (by omega) (by decide) (by omega)) rfl (by kernel_rfl) ?_
  refine r_assign (v := slv 1 0 3 3) rfl rfl rfl ?_
  refine r_doneN (x_then (c_reg ?_))
  refine r_move (v := slv 1 0 3 3) rfl rfl rfl ?_
  refine r_fieldAddr (b := 0) (o := 0) (n := 3) (o' := 3) rfl rfl rfl rfl rfl ?_
  refine r_load (p := pt 0 3) (v := .string e.text) rfl rfl rfl (by kernel_rfl) ?_
  refine r_build (vs := [(0, .int .i64 4), (1, .string e.text)]) (v := fdV (⟨4, e.text⟩ : Field)) rfl rfl rfl (by kernel_rfl) ?_
  refine r_lit (vs := [(0, fdV (⟨4, e.text⟩ : Field))]) (v := slv 4 0 1 1) (blk := rwB cFd [(⟨4, e.text⟩ : Field)]) (nid := 4) (H' := [bxB 109 (entC e), rwB cFd (([(⟨1, (numS e.kind).1⟩ : Field)] ++ [(⟨2, (numS e.client).1⟩ : Field)]) ++ [(⟨3, (numS e.seq).1⟩ : Field)]), rwB cFd [(⟨2, (numS e.client).1⟩ : Field)], rwB cFd [(⟨3, (numS e.seq).1⟩ : Field)], rwB cFd [(⟨4, e.text⟩ : Field)]]) rfl rfl rfl (by kernel_rfl) (by kernel_rfl) ?_
  have hl11 : ((([(⟨1, (numS e.kind).1⟩ : Field)] ++ [(⟨2, (numS e.client).1⟩ : Field)]) ++ [(⟨3, (numS e.seq).1⟩ : Field)]) ++ [(⟨4, e.text⟩ : Field)]).length = 4 := by have := hl10; have := (rfl : _ = 1); first | (rw [List.length_append]; omega) | (simp; omega) | simp
  refine r_append (p := slv 1 0 3 3) (q := slv 4 0 1 1) (v := slv 1 0 4 4) (b := 1) (blk := rwB cFd ((([(⟨1, (numS e.kind).1⟩ : Field)] ++ [(⟨2, (numS e.client).1⟩ : Field)]) ++ [(⟨3, (numS e.seq).1⟩ : Field)]) ++ [(⟨4, e.text⟩ : Field)])) (H' := [bxB 109 (entC e), rwB cFd ((([(⟨1, (numS e.kind).1⟩ : Field)] ++ [(⟨2, (numS e.client).1⟩ : Field)]) ++ [(⟨3, (numS e.seq).1⟩ : Field)]) ++ [(⟨4, e.text⟩ : Field)]), rwB cFd [(⟨2, (numS e.client).1⟩ : Field)], rwB cFd [(⟨3, (numS e.seq).1⟩ : Field)], rwB cFd [(⟨4, e.text⟩ : Field)]]) rfl rfl rfl (.inl ⟨_, rfl⟩) rfl rfl (appD_rw cFd (by_ := 24) (k := 1) (n' := 4) (ms := [(⟨4, e.text⟩ : Field)]) (fun _ => rfl) rfl rfl (by kernel_rfl) rfl rfl (by have := hl10; omega) (by omega) (by decide) (by omega)) rfl (by kernel_rfl) ?_
  refine r_assign (v := slv 1 0 4 4) rfl rfl rfl ?_
  refine r_doneN (x_blockN (x_then (c_seq (c_reg ?_))))
  refine r_move (v := slv 1 0 4 4) rfl rfl rfl ?_
  refine r_assign (v := slv 1 0 4 4) rfl rfl rfl ?_
  refine r_doneN (x_then (c_ret (x_end ?_)))
  rw [show entF e = ((([(⟨1, (numS e.kind).1⟩ : Field)] ++ [(⟨2, (numS e.client).1⟩ : Field)]) ++ [(⟨3, (numS e.seq).1⟩ : Field)]) ++ [(⟨4, e.text⟩ : Field)]) from by unfold entF; first | (rw [if_pos (by omega)]; rfl) | (rw [if_neg (by omega), if_pos (by omega)]; rfl) | (rw [if_neg (by omega), if_neg (by omega)]; rfl)]
  exact end_map [1] (v := slv 1 0 4 4) rfl (by kernel_rfl) rfl rfl (by decide) (by simp [keptB, rwB, cFd]) ⟨rfl, rfl, rfl, by first | omega | exact Nat.le_refl _ | exact Nat.zero_le _ | (dsimp only; omega), by first | omega | exact Nat.le_refl _ | exact Nat.zero_le _ | (dsimp only; omega)⟩
  refine r_bin (v := .bool false) (vx := .int .i64 e.kind) (vy := .int .i64 1) rfl rfl rfl rfl (eql_f (by omega)) ?_
  refine r_assign (v := .bool false) rfl rfl rfl ?_
  refine r_doneN (x_then (c_false rfl (c_seq (c_reg ?_))))
  by_cases h2 : e.kind = 2
  refine r_bin (v := .bool true) (vx := .int .i64 e.kind) (vy := .int .i64 2) rfl rfl rfl rfl (eql_t (by omega)) ?_
  refine r_assign (v := .bool true) rfl rfl rfl ?_
  refine r_doneN (x_then (c_true rfl (c_reg ?_)))
  refine r_move (v := slv 1 0 1 1) rfl rfl rfl ?_
  refine r_fieldAddr (b := 0) (o := 0) (n := 4) (o' := 4) rfl rfl rfl rfl rfl ?_
  refine r_load (p := pt 0 4) (v := signedV e.head) rfl rfl rfl (by kernel_rfl) ?_
  refine r_callN (e := []) (nid := 2) (refBS_ok (G := G) e.head (right_head hr (by omega))) (vals := [signedV e.head]) (v := slv 2 0 ((putSF e.head).1.length) ((putSF e.head).1.length)) (H' := [bxB 109 (entC e), rwB cFd [(⟨1, (numS e.kind).1⟩ : Field)], rowB ((putSF e.head).1), hole, hole]) rfl rfl rfl rfl rfl rfl rfl ⟨⟨rfl, trivial⟩, trivial, rfl, rfl, rfl⟩ (by kernel_rfl) (by kernel_rfl) ?_
  refine r_str (p := slv 2 0 ((putSF e.head).1.length) ((putSF e.head).1.length)) (v := .string (strOf ((putSF e.head).1))) rfl rfl rfl (str_whole rfl rfl rfl rfl rfl (by omega)) ?_
  refine r_build (vs := [(0, .int .i64 5), (1, .string (strOf ((putSF e.head).1)))]) (v := fdV (⟨5, (strOf ((putSF e.head).1))⟩ : Field)) rfl rfl rfl (by kernel_rfl) ?_
  refine r_lit (vs := [(0, fdV (⟨5, (strOf ((putSF e.head).1))⟩ : Field))]) (v := slv 3 0 1 1) (blk := rwB cFd [(⟨5, (strOf ((putSF e.head).1))⟩ : Field)]) (nid := 3) (H' := [bxB 109 (entC e), rwB cFd [(⟨1, (numS e.kind).1⟩ : Field)], rowB ((putSF e.head).1), rwB cFd [(⟨5, (strOf ((putSF e.head).1))⟩ : Field)], hole]) rfl rfl rfl (by kernel_rfl) (by kernel_rfl) ?_
  have hl12 : ([(⟨1, (numS e.kind).1⟩ : Field)] ++ [(⟨5, (strOf ((putSF e.head).1))⟩ : Field)]).length = 2 := by have : ([(⟨1, (numS e.kind).1⟩ : Field)]).length = 1 := rfl; have := (rfl : _ = 1); first | (rw [List.length_append]; omega) | (simp; omega) | simp
  refine r_append (p := slv 1 0 1 1) (q := slv 3 0 1 1) (v := slv 1 0 2 2) (b := 1) (blk := rwB cFd ([(⟨1, (numS e.kind).1⟩ : Field)] ++ [(⟨5, (strOf ((putSF e.head).1))⟩ : Field)])) (H' := [bxB 109 (entC e), rwB cFd ([(⟨1, (numS e.kind).1⟩ : Field)] ++ [(⟨5, (strOf ((putSF e.head).1))⟩ : Field)]), rowB ((putSF e.head).1), rwB cFd [(⟨5, (strOf ((putSF e.head).1))⟩ : Field)], hole]) rfl rfl rfl (.inl ⟨_, rfl⟩) rfl rfl (appD_rw cFd (by_ := 24) (k := 1) (n' := 2) (ms := [(⟨5, (strOf ((putSF e.head).1))⟩ : Field)]) (fun _ => rfl) rfl rfl (by kernel_rfl) rfl rfl (by have : ([(⟨1, (numS e.kind).1⟩ : Field)]).length = 1 := rfl; omega) (by omega) (by decide) (by omega)) rfl (by kernel_rfl) ?_
  refine r_assign (v := slv 1 0 2 2) rfl rfl rfl ?_
  refine r_doneN (x_blockN (x_then (c_seq (c_reg ?_))))
  refine r_move (v := slv 1 0 2 2) rfl rfl rfl ?_
  refine r_assign (v := slv 1 0 2 2) rfl rfl rfl ?_
  refine r_doneN (x_then (c_ret (x_end ?_)))
  rw [show entF e = ([(⟨1, (numS e.kind).1⟩ : Field)] ++ [(⟨5, (strOf ((putSF e.head).1))⟩ : Field)]) from by unfold entF; first | (rw [if_pos (by omega)]; rfl) | (rw [if_neg (by omega), if_pos (by omega)]; rfl) | (rw [if_neg (by omega), if_neg (by omega)]; rfl)]
  exact end_map [1] (v := slv 1 0 2 2) rfl (by kernel_rfl) rfl rfl (by decide) (by simp [keptB, rwB, cFd]) ⟨rfl, rfl, rfl, by first | omega | exact Nat.le_refl _ | exact Nat.zero_le _ | (dsimp only; omega), by first | omega | exact Nat.le_refl _ | exact Nat.zero_le _ | (dsimp only; omega)⟩
  refine r_bin (v := .bool false) (vx := .int .i64 e.kind) (vy := .int .i64 2) rfl rfl rfl rfl (eql_f (by omega)) ?_
  refine r_assign (v := .bool false) rfl rfl rfl ?_
  refine r_doneN (x_then (c_false rfl (c_seq (c_reg ?_))))
  refine r_bin (v := .bool true) (vx := .int .i64 e.kind) (vy := .int .i64 3) rfl rfl rfl rfl (eql_t (by omega)) ?_
  refine r_assign (v := .bool true) rfl rfl rfl ?_
  refine r_doneN (x_then (c_true rfl (c_reg ?_)))
  refine r_move (v := slv 1 0 1 1) rfl rfl rfl ?_
  refine r_fieldAddr (b := 0) (o := 0) (n := 73) (o' := 73) rfl rfl rfl rfl rfl ?_
  refine r_load (p := pt 0 73) (v := claimV e.claim) rfl rfl rfl (by kernel_rfl) ?_
  refine r_callN (e := []) (nid := 2) (refClaimBytes_ok (G := G) e.claim (right_claim hr (by omega))) (vals := [claimV e.claim]) (v := slv 2 0 ((putC e.claim).1.length) ((putC e.claim).1.length)) (H' := [bxB 109 (entC e), rwB cFd [(⟨1, (numS e.kind).1⟩ : Field)], rowB ((putC e.claim).1), hole, hole]) rfl rfl rfl rfl rfl rfl rfl ⟨⟨rfl, trivial⟩, trivial, rfl, rfl, rfl⟩ (by kernel_rfl) (by kernel_rfl) ?_
  refine r_str (p := slv 2 0 ((putC e.claim).1.length) ((putC e.claim).1.length)) (v := .string (strOf ((putC e.claim).1))) rfl rfl rfl (str_whole rfl rfl rfl rfl rfl (by omega)) ?_
  refine r_build (vs := [(0, .int .i64 6), (1, .string (strOf ((putC e.claim).1)))]) (v := fdV (⟨6, (strOf ((putC e.claim).1))⟩ : Field)) rfl rfl rfl (by kernel_rfl) ?_
  refine r_lit (vs := [(0, fdV (⟨6, (strOf ((putC e.claim).1))⟩ : Field))]) (v := slv 3 0 1 1) (blk := rwB cFd [(⟨6, (strOf ((putC e.claim).1))⟩ : Field)]) (nid := 3) (H' := [bxB 109 (entC e), rwB cFd [(⟨1, (numS e.kind).1⟩ : Field)], rowB ((putC e.claim).1), rwB cFd [(⟨6, (strOf ((putC e.claim).1))⟩ : Field)], hole]) rfl rfl rfl (by kernel_rfl) (by kernel_rfl) ?_
  have hl13 : ([(⟨1, (numS e.kind).1⟩ : Field)] ++ [(⟨6, (strOf ((putC e.claim).1))⟩ : Field)]).length = 2 := by have : ([(⟨1, (numS e.kind).1⟩ : Field)]).length = 1 := rfl; have := (rfl : _ = 1); first | (rw [List.length_append]; omega) | (simp; omega) | simp
  refine r_append (p := slv 1 0 1 1) (q := slv 3 0 1 1) (v := slv 1 0 2 2) (b := 1) (blk := rwB cFd ([(⟨1, (numS e.kind).1⟩ : Field)] ++ [(⟨6, (strOf ((putC e.claim).1))⟩ : Field)])) (H' := [bxB 109 (entC e), rwB cFd ([(⟨1, (numS e.kind).1⟩ : Field)] ++ [(⟨6, (strOf ((putC e.claim).1))⟩ : Field)]), rowB ((putC e.claim).1), rwB cFd [(⟨6, (strOf ((putC e.claim).1))⟩ : Field)], hole]) rfl rfl rfl (.inl ⟨_, rfl⟩) rfl rfl (appD_rw cFd (by_ := 24) (k := 1) (n' := 2) (ms := [(⟨6, (strOf ((putC e.claim).1))⟩ : Field)]) (fun _ => rfl) rfl rfl (by kernel_rfl) rfl rfl (by have : ([(⟨1, (numS e.kind).1⟩ : Field)]).length = 1 := rfl; omega) (by omega) (by decide) (by omega)) rfl (by kernel_rfl) ?_
  refine r_assign (v := slv 1 0 2 2) rfl rfl rfl ?_
  refine r_doneN (x_blockN (x_then (c_seq (c_reg ?_))))
  refine r_move (v := slv 1 0 2 2) rfl rfl rfl ?_
  refine r_assign (v := slv 1 0 2 2) rfl rfl rfl ?_
  refine r_doneN (x_then (c_ret (x_end ?_)))
  rw [show entF e = ([(⟨1, (numS e.kind).1⟩ : Field)] ++ [(⟨6, (strOf ((putC e.claim).1))⟩ : Field)]) from by unfold entF; first | (rw [if_pos (by omega)]; rfl) | (rw [if_neg (by omega), if_pos (by omega)]; rfl) | (rw [if_neg (by omega), if_neg (by omega)]; rfl)]
  exact end_map [1] (v := slv 1 0 2 2) rfl (by kernel_rfl) rfl rfl (by decide) (by simp [keptB, rwB, cFd]) ⟨rfl, rfl, rfl, by first | omega | exact Nat.le_refl _ | exact Nat.zero_le _ | (dsimp only; omega), by first | omega | exact Nat.le_refl _ | exact Nat.zero_le _ | (dsimp only; omega)⟩
theorem refEBytes_ok (e : Entry) (hr : rightE e) : CallL Tryd.prog G 103 [entV e] [] (slv 0 0 (putE e).1.length (putE e).1.length) [rowB (putE e).1] := by
  refine walk (fn := Tryd.f103) (nt := 12) rfl rfl rfl rfl ?_
  refine c_hole 3 (H' := [hole, hole, hole]) rfl ?_
  refine c_seq (c_reg ?_)
  refine r_box (v := entV e) (b := bxB 109 (entC e)) (nid := 0) (H' := [bxB 109 (entC e), hole, hole]) rfl rfl rfl (by kernel_rfl) (by kernel_rfl) ?_
  refine r_assign (v := .slice none 0 0) rfl rfl rfl ?_
  refine r_doneN (x_then (c_seq (c_reg ?_)))
  refine r_load (p := pt 0 0) (v := entV e) rfl rfl rfl (by kernel_rfl) ?_
  have hef4 := entF_len e
  refine r_callN (e := []) (nid := 1) (refFields_ok (G := G) e hr) (vals := [entV e]) (v := slv 1 0 ((entF e).length) ((entF e).length)) (H' := [bxB 109 (entC e), rwB cFd (entF e), hole]) rfl rfl rfl rfl rfl rfl rfl ⟨⟨rfl, trivial⟩, trivial, rfl, rfl, rfl⟩ (by kernel_rfl) (by kernel_rfl) ?_
  refine r_callN (e := [some (1, 0)]) (nid := 2) (refLay_ok (G := G) (entF e) ((entF e).length) ((entF e).length) (rfl : _ = _) (by omega) (by omega) (entF_ok hr)) (vals := [slv 1 0 ((entF e).length) ((entF e).length)]) (v := .tuple #[slv 2 0 ((layF (entF e) 0 []).1.length) ((layF (entF e) 0 []).1.length), .int .i64 0]) (H' := [bxB 109 (entC e), rwB cFd (entF e), rowB ((layF (entF e) 0 []).1)]) rfl rfl rfl rfl rfl rfl rfl ⟨⟨⟨rfl, rfl, rfl, by first | omega | exact Nat.le_refl _, by first | omega | exact Nat.le_refl _⟩, trivial⟩, ⟨(emb_rwB rfl), trivial⟩, rfl, rfl, rfl⟩ (by kernel_rfl) (by kernel_rfl) ?_
  refine r_move (v := .tuple #[slv 2 0 ((layF (entF e) 0 []).1.length) ((layF (entF e) 0 []).1.length), .int .i64 0]) rfl rfl rfl ?_
  refine r_extract (vs := #[slv 2 0 ((layF (entF e) 0 []).1.length) ((layF (entF e) 0 []).1.length), .int .i64 0]) (v := slv 2 0 ((layF (entF e) 0 []).1.length) ((layF (entF e) 0 []).1.length)) rfl rfl rfl rfl ?_
  refine r_extract (vs := #[slv 2 0 ((layF (entF e) 0 []).1.length) ((layF (entF e) 0 []).1.length), .int .i64 0]) (v := .int .i64 0) rfl rfl rfl rfl ?_
  refine r_assign (v := slv 2 0 ((layF (entF e) 0 []).1.length) ((layF (entF e) 0 []).1.length)) rfl rfl rfl ?_
  refine r_assign (v := .int .i64 0) rfl rfl rfl ?_
  refine r_doneN (x_then (c_seq (c_reg ?_)))
  refine r_move (v := slv 2 0 ((layF (entF e) 0 []).1.length) ((layF (entF e) 0 []).1.length)) rfl rfl rfl ?_
  refine r_assign (v := slv 2 0 ((layF (entF e) 0 []).1.length) ((layF (entF e) 0 []).1.length)) rfl rfl rfl ?_
  refine r_doneN (x_then (c_ret (x_end ?_)))
  rw [show (putE e).1 = (layF (entF e) 0 []).1 from by rw [show putE e = _ from if_pos hr]]
  exact end_map [2] (v := slv 2 0 ((layF (entF e) 0 []).1.length) ((layF (entF e) 0 []).1.length)) rfl (by kernel_rfl) rfl rfl (by decide) (by simp [keptB, rowB]) ⟨rfl, rfl, rfl, by first | omega | exact Nat.le_refl _ | exact Nat.zero_le _ | (dsimp only; omega), by first | omega | exact Nat.le_refl _ | exact Nat.zero_le _ | (dsimp only; omega)⟩
theorem refItemBytes_ok (x : Item) (hr : rightI x) : CallL Tryd.prog G 86 [itemV x] [] (slv 0 0 (putI x).1.length (putI x).1.length) [rowB (putI x).1] := by
  have hr1 := hr.1
  have hr2 := hr.2.1
  refine walk (fn := Tryd.f86) (nt := 12) rfl rfl rfl rfl ?_
  refine c_hole 4 (H' := [hole, hole, hole, hole]) rfl ?_
  refine c_seq (c_reg ?_)
  refine r_box (v := itemV x) (b := bxB 110 (itemC x)) (nid := 0) (H' := [bxB 110 (itemC x), hole, hole, hole]) rfl rfl rfl (by kernel_rfl) (by kernel_rfl) ?_
  refine r_assign (v := .slice none 0 0) rfl rfl rfl ?_
  refine r_doneN (x_then (c_seq ?_))
  refine c_drawK (by kernel_rfl) ?_
  refine r_fieldAddr (b := 0) (o := 0) (n := 0) (o' := 0) rfl rfl rfl rfl rfl ?_
  refine r_load (p := pt 0 0) (v := .int .i64 x.epoch) rfl rfl rfl (by kernel_rfl) ?_
  refine r_callP (refNum_ok (G := G) x.epoch (by omega) (by omega)) (vals := [.int .i64 x.epoch]) (res' := .string ((numS x.epoch).1)) rfl rfl rfl rfl rfl rfl ?_
  refine r_fieldAddr (b := 0) (o := 0) (n := 1) (o' := 1) rfl rfl rfl rfl rfl ?_
  refine r_load (p := pt 0 1) (v := entV x.entry) rfl rfl rfl (by kernel_rfl) ?_
  refine r_callN (e := []) (nid := 1) (refEBytes_ok (G := G) x.entry hr.2.2) (vals := [entV x.entry]) (v := slv 1 0 ((putE x.entry).1.length) ((putE x.entry).1.length)) (H' := [bxB 110 (itemC x), rowB ((putE x.entry).1), hole, hole]) rfl rfl rfl rfl rfl rfl rfl ⟨⟨rfl, trivial⟩, trivial, rfl, rfl, rfl⟩ (by kernel_rfl) (by kernel_rfl) ?_
  refine r_str (p := slv 1 0 ((putE x.entry).1.length) ((putE x.entry).1.length)) (v := .string (strOf ((putE x.entry).1))) rfl rfl rfl (str_whole rfl rfl rfl rfl rfl (by omega)) ?_
  refine r_lit (vs := [(0, .string ((numS x.epoch).1)), (1, .string (strOf ((putE x.entry).1)))]) (v := slv 2 0 2 2) (blk := txB [(numS x.epoch).1, (strOf ((putE x.entry).1))]) (nid := 2) (H' := [bxB 110 (itemC x), rowB ((putE x.entry).1), txB [(numS x.epoch).1, (strOf ((putE x.entry).1))], hole]) rfl rfl rfl (by kernel_rfl) (by kernel_rfl) ?_
  refine r_callN (e := [some (2, 0)]) (nid := 3) (refRow_ok (G := G) [(numS x.epoch).1, (strOf ((putE x.entry).1))] 2 2 (by rfl) (by first | omega | exact Nat.le_refl _) (by omega) (itemL_sz x)) (vals := [slv 2 0 2 2]) (v := slv 3 0 ((bytesR [(numS x.epoch).1, (strOf ((putE x.entry).1))]).length) ((bytesR [(numS x.epoch).1, (strOf ((putE x.entry).1))]).length)) (H' := [bxB 110 (itemC x), rowB ((putE x.entry).1), txB [(numS x.epoch).1, (strOf ((putE x.entry).1))], rowB (bytesR [(numS x.epoch).1, (strOf ((putE x.entry).1))])]) rfl rfl rfl rfl rfl rfl rfl ⟨⟨⟨rfl, rfl, rfl, by first | omega | exact Nat.le_refl _, by first | omega | exact Nat.le_refl _⟩, trivial⟩, ⟨(emb_tx rfl), trivial⟩, rfl, rfl, rfl⟩ (by kernel_rfl) (by kernel_rfl) ?_
  refine r_assign (v := slv 3 0 ((bytesR [(numS x.epoch).1, (strOf ((putE x.entry).1))]).length) ((bytesR [(numS x.epoch).1, (strOf ((putE x.entry).1))]).length)) rfl rfl rfl ?_
  refine r_doneK (drawnTK_ok [[], [0], [0, 1], [], [3], [0, 1, 2, 3, 4], [0, 1, 2, 3, 4, 5], [0, 1, 2, 3, 4, 5, 6], [0, 1, 2, 3, 4, 5, 6, 7], [0, 1, 2, 3, 4, 5, 6, 7, 8]] (by kernel_rfl) (by kernel_rfl)) ?_
  refine x_then (c_ret (x_end ?_))
  rw [show (putI x).1 = bytesR [(numS x.epoch).1, strOf (putE x.entry).1] from by rw [show putI x = _ from if_pos hr]; rfl]
  exact end_map [3] (v := slv 3 0 ((bytesR [(numS x.epoch).1, (strOf ((putE x.entry).1))]).length) ((bytesR [(numS x.epoch).1, (strOf ((putE x.entry).1))]).length)) rfl (by kernel_rfl) rfl rfl (by decide) (by simp [keptB, rowB]) ⟨rfl, rfl, rfl, by first | omega | exact Nat.le_refl _ | exact Nat.zero_le _ | (dsimp only; omega), by first | omega | exact Nat.le_refl _ | exact Nat.zero_le _ | (dsimp only; omega)⟩
theorem refLeaf2_ok (kk : Nat → BitVec 32) (hG2 : G 2 = some (rowE w32 64 kk)) (s : ByteArray) (hs : s.size ≤ 1000000) : CallL Tryd.prog G 85 [.string s] [] (dgV (lfT kk s)) [] := by
  refine walk (fn := Tryd.f85) (nt := 6) rfl rfl rfl rfl ?_
  refine c_hole 1 (H' := [hole]) rfl ?_
  refine c_seq (c_reg ?_)
  refine r_alloc (b := dgB dz) (nid := 0) (H' := [dgB dz]) rfl rfl (by kernel_rfl) (by kernel_rfl) ?_
  refine r_doneN (x_then (c_seq (c_reg ?_)))
  refine r_move (v := .string s) rfl rfl rfl ?_
  refine r_bin (v := .string (zero1 ++ s)) (vx := .string zero1) (vy := .string s) rfl rfl rfl rfl (bin_cat (by have e0 : zero1.size = 1 := rfl; omega)) ?_
  refine r_callP (refSum_ok' (G := G) kk hG2 (zero1 ++ s) (by simp only [ByteArray.size_append]; have e0 : zero1.size = 1 := rfl; omega)) (vals := [.string (zero1 ++ s)]) (res' := dgV (shaOf kk (bl (zero1 ++ s)))) rfl rfl rfl rfl rfl (by kernel_rfl) ?_
  refine r_store (p := pt 0 0) (v := dgV (shaOf kk (bl (zero1 ++ s)))) (b := 0) (blk := dgB (shaOf kk (bl (zero1 ++ s)))) (H' := [dgB (shaOf kk (bl (zero1 ++ s)))]) rfl rfl rfl (by kernel_rfl) (by kernel_rfl) ?_
  refine r_doneN (x_then (c_ret (x_end ?_)))
  rw [show lfT kk s = shaOf kk (bl (zero1 ++ s)) from lfT_bl kk s]
  exact end_same (v := dgV (shaOf kk (bl (zero1 ++ s)))) (by kernel_rfl) rfl rfl (by kernel_rfl) (argV_pure (pure_row fun _ => rfl) rfl)
theorem refLeaf_ok (kk : Nat → BitVec 32) (hG2 : G 2 = some (rowE w32 64 kk)) (x : Item) (hr : rightI x) : CallL Tryd.prog G 63 [itemV x] [] (dgV (leafI kk x).1) [] := by
  refine walk (fn := Tryd.f63) (nt := 7) rfl rfl rfl rfl ?_
  refine c_hole 3 (H' := [hole, hole, hole]) rfl ?_
  refine c_seq (c_reg ?_)
  refine r_box (v := itemV x) (b := bxB 110 (itemC x)) (nid := 0) (H' := [bxB 110 (itemC x), hole, hole]) rfl rfl rfl (by kernel_rfl) (by kernel_rfl) ?_
  refine r_alloc (b := dgB dz) (nid := 1) (H' := [bxB 110 (itemC x), dgB dz, hole]) rfl rfl (by kernel_rfl) (by kernel_rfl) ?_
  refine r_doneN (x_then (c_seq (c_reg ?_)))
  refine r_load (p := pt 0 0) (v := itemV x) rfl rfl rfl (by kernel_rfl) ?_
  refine r_callN (e := []) (nid := 2) (refItemBytes_ok (G := G) x hr) (vals := [itemV x]) (v := slv 2 0 ((putI x).1.length) ((putI x).1.length)) (H' := [bxB 110 (itemC x), dgB dz, rowB ((putI x).1)]) rfl rfl rfl rfl rfl rfl rfl ⟨⟨rfl, trivial⟩, trivial, rfl, rfl, rfl⟩ (by kernel_rfl) (by kernel_rfl) ?_
  refine r_str (p := slv 2 0 ((putI x).1.length) ((putI x).1.length)) (v := .string (strOf ((putI x).1))) rfl rfl rfl (str_whole rfl rfl rfl rfl rfl (by omega)) ?_
  refine r_callP (refLeaf2_ok (G := G) kk hG2 (strOf ((putI x).1)) (by rw [strOf_size]; have := putI_len x; omega)) (vals := [.string (strOf ((putI x).1))]) (res' := dgV (lfT kk (strOf ((putI x).1)))) rfl rfl rfl rfl rfl (by kernel_rfl) ?_
  refine r_store (p := pt 1 0) (v := dgV (lfT kk (strOf ((putI x).1)))) (b := 1) (blk := dgB (lfT kk (strOf ((putI x).1)))) (H' := [bxB 110 (itemC x), dgB (lfT kk (strOf ((putI x).1))), rowB ((putI x).1)]) rfl rfl rfl (by kernel_rfl) (by kernel_rfl) ?_
  refine r_doneN (x_then (c_ret (x_end ?_)))
  rw [show (leafI kk x).1 = lfT kk (strOf (putI x).1) from by rw [show leafI kk x = _ from if_pos hr]]
  exact end_same (v := dgV (lfT kk (strOf ((putI x).1)))) (by kernel_rfl) rfl rfl (by kernel_rfl) (argV_pure (pure_row fun _ => rfl) rfl)
theorem refLeaves_ok (kk : Nat → BitVec 32) (hG2 : G 2 = some (rowE w32 64 kk)) (l : List Item) (m c : Nat) (hm : m ≤ l.length) (hc : m ≤ c) (hb : m ≤ 1048576) (hall : ∀ i, i < m → rightI (l.getD i default)) : CallL Tryd.prog G 34 [slv 0 0 m c] [rwR cItem l] (slv 1 0 m m) [rwR cItem l, dsB (acL kk l m)] := by
  refine walk (fn := Tryd.f34) (nt := 22) rfl rfl rfl rfl ?_
  refine c_hole 1 (H' := [rwR cItem l, hole]) rfl ?_
  refine c_seq (c_reg ?_)
  refine r_assign (v := .slice none 0 0) rfl rfl rfl ?_
  refine r_doneN (x_then (c_seq (c_reg ?_)))
  refine r_assign (v := .slice none 0 0) rfl rfl rfl ?_
  refine r_doneN (x_then (c_seq (c_seq ?_)))
  refine c_weak (Weak.nilTmp (i := 3) (b := 1) true 32 rfl (by decide) rfl) ?_
  refine c_reg ?_
  refine r_assign (v := .int .i64 0) rfl rfl rfl ?_
  refine r_doneN (x_then (c_block ?_))
  refine c_loopN (fun i : Nat => [slv 0 0 m c, dead, .slice none 0 0, slv 1 0 i i, .int .i64 (i : Nat)]) (fun i : Nat => [rwR cItem l, dsB (acL kk l i)]) (fun i : Nat => i ≤ m) (fun i : Nat => m - i) 0 (Nat.zero_le _) ?_ ?_
  · refine weak_to (n := 2) rfl ?_ (by kernel_rfl) (by kernel_rfl)
    repeat (first | exact trivial | refine ⟨.inl rfl, ?_⟩ | refine ⟨.inr ⟨rfl, rfl⟩, ?_⟩ | refine ⟨.inr ⟨congrArg (Value.int .i64) (by first | omega | (dsimp only; omega)), rfl⟩, ?_⟩)
  rintro i hi
  refine c_hole 2 (H' := [rwR cItem l, dsB (acL kk l i), hole, hole]) rfl ?_
  refine c_seq (c_seq (c_reg ?_))
  refine r_move (v := .int .i64 (i : Nat)) rfl rfl rfl ?_
  refine r_move (v := slv 0 0 m c) rfl rfl rfl ?_
  refine r_len (p := slv 0 0 m c) (v := .int .i64 (m : Nat)) rfl rfl rfl rfl ?_
  by_cases h1 : (i : Nat) < (m : Nat)
  refine r_bin (v := .bool true) (vx := .int .i64 (i : Nat)) (vy := .int .i64 (m : Nat)) rfl rfl rfl rfl (lss_t (by omega)) ?_
  refine r_doneN (x_then (c_true rfl (c_skip (x_then (c_seq (c_block (c_seq (c_reg ?_))))))))
  refine r_move (v := slv 0 0 m c) rfl rfl rfl ?_
  refine r_move (v := .int .i64 (i : Nat)) rfl rfl rfl ?_
  refine r_idxS (b := 0) (o := 0) (j := i * 110) (m := m) (c := c) (sz := 110) (i := (i : Nat)) (k := .i64) rfl rfl rfl rfl rfl (by omega) (by omega) (by omega) ?_
  refine r_load (p := pt 0 (i * 110)) (v := itemV (l.getD i default)) rfl rfl rfl (load_rw (n := 0) (m := 110) cItem rfl rfl rfl rfl (by omega) (by omega)) ?_
  refine r_callP (refLeaf_ok (G := G) kk hG2 (l.getD i default) (hall i (by omega))) (vals := [itemV (l.getD i default)]) (res' := dgV ((leafI kk (l.getD i default)).1)) rfl rfl rfl rfl rfl (by kernel_rfl) ?_
  refine r_alloc (b := dgB dz) (nid := 2) (H' := [rwR cItem l, dsB (acL kk l i), dgB dz, hole]) rfl rfl (by kernel_rfl) (by kernel_rfl) ?_
  refine r_store (p := pt 2 0) (v := dgV ((leafI kk (l.getD i default)).1)) (b := 2) (blk := dgB ((leafI kk (l.getD i default)).1)) (H' := [rwR cItem l, dsB (acL kk l i), dgB ((leafI kk (l.getD i default)).1), hole]) rfl rfl rfl (by kernel_rfl) (by kernel_rfl) ?_
  refine r_doneN (x_then (c_reg ?_))
  refine r_move (v := slv 1 0 i i) rfl rfl rfl ?_
  refine r_load (p := pt 2 0) (v := dgV ((leafI kk (l.getD i default)).1)) rfl rfl rfl (by kernel_rfl) ?_
  refine r_lit (vs := [(0, dgV ((leafI kk (l.getD i default)).1))]) (v := slv 3 0 1 1) (blk := dsB [(leafI kk (l.getD i default)).1]) (nid := 3) (H' := [rwR cItem l, dsB (acL kk l i), dgB ((leafI kk (l.getD i default)).1), dsB [(leafI kk (l.getD i default)).1]]) rfl rfl rfl (by kernel_rfl) (by kernel_rfl) ?_
  have hl2 : ((acL kk l i) ++ [(leafI kk (l.getD i default)).1]).length = i + 1 := by have := (acL_len kk l i); have := (rfl : _ = 1); first | (rw [List.length_append]; omega) | (simp; omega) | simp
  refine r_append (p := slv 1 0 i i) (q := slv 3 0 1 1) (v := slv 1 0 (i + 1) (i + 1)) (b := 1) (blk := dsB ((acL kk l i) ++ [(leafI kk (l.getD i default)).1])) (H' := [rwR cItem l, dsB ((acL kk l i) ++ [(leafI kk (l.getD i default)).1]), dgB ((leafI kk (l.getD i default)).1), dsB [(leafI kk (l.getD i default)).1]]) rfl rfl rfl (.inl ⟨_, rfl⟩) rfl rfl (appD_rw cDg (by_ := 32) (k := 1) (n' := i + 1) (ms := [(leafI kk (l.getD i default)).1]) (fun _ => rfl) rfl rfl (by kernel_rfl) rfl rfl (by have := (acL_len kk l i); omega) (by omega) (by decide) (by omega)) rfl (by kernel_rfl) ?_
  refine r_assign (v := slv 1 0 (i + 1) (i + 1)) rfl rfl rfl ?_
  refine r_doneN (x_blockN (x_then (c_reg ?_)))
  refine r_move (v := .int .i64 (i : Nat)) rfl rfl rfl ?_
  refine r_bin (v := .int .i64 ((i : Nat) + 1)) (vx := .int .i64 (i : Nat)) (vy := .int .i64 1) rfl rfl rfl rfl (bin_add (by omega) (by omega) (by omega)) ?_
  refine r_assign (v := .int .i64 ((i : Nat) + 1)) rfl rfl rfl ?_
  refine r_doneN ?_
  refine x_round ⟨(i + 1), (show i + 1 ≤ m by omega), by show m - (i + 1) < m - i; omega, ?_⟩
  refine weak_to (n := 2) rfl ?_ (by kernel_rfl) (by kernel_rfl)
  repeat (first | exact trivial | refine ⟨.inl rfl, ?_⟩ | refine ⟨.inr ⟨rfl, rfl⟩, ?_⟩ | refine ⟨.inr ⟨congrArg (Value.int .i64) (by first | omega | (dsimp only; omega)), rfl⟩, ?_⟩)
  refine r_bin (v := .bool false) (vx := .int .i64 (i : Nat)) (vy := .int .i64 (m : Nat)) rfl rfl rfl rfl (lss_f (by omega)) ?_
  refine r_doneN (x_then (c_false rfl (c_exit (x_thenE (x_leaveE (x_block rfl (x_then (c_seq (c_reg ?_)))))))))
  refine r_move (v := slv 1 0 i i) rfl rfl rfl ?_
  refine r_assign (v := slv 1 0 i i) rfl rfl rfl ?_
  refine r_doneN (x_then (c_ret (x_end ?_)))
  have hi2 : i = m := by omega
  subst hi2
  exact end_map [0, 1] (v := slv 1 0 i i) rfl (by kernel_rfl) rfl rfl (by decide) (by simp [keptB, rwR, dsB, cItem]) ⟨rfl, rfl, rfl, by first | omega | exact Nat.le_refl _ | exact Nat.zero_le _ | (dsimp only; omega), by first | omega | exact Nat.le_refl _ | exact Nat.zero_le _ | (dsimp only; omega)⟩
end Go.Flat
