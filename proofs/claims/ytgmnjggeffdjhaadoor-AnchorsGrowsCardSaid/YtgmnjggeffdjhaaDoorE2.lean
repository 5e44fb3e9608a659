/- Walks and plain laws: what each theorem says, within the bounds that it names. -/
import Derived.Test.YtgmnjggeffdjhaaDoorE1
set_option linter.unusedVariables false
set_option linter.unusedSimpArgs false
set_option maxRecDepth 20000
namespace Go.Flat
open Go.Proofs
variable {G : Glob}
theorem sameB_comm (n : Nat) (a b : D) : sameB n a b = sameB n b a := by
  cases h : sameB n a b with
  | true => rw [sameB_iff] at h; exact (sameB_iff.2 h.symm).symm
  | false =>
    cases h' : sameB n b a with
    | true => rw [sameB_iff] at h'; rw [sameB_iff.2 h'.symm] at h; cases h
    | false => rfl
theorem eqHead_comm (a b : Head) : eqHead a b = eqHead b a := by
  unfold eqHead; rw [BEq.comm (a := a.region), BEq.comm (a := a.epoch), BEq.comm (a := a.size), BEq.comm (a := a.tick), sameB_comm]
theorem eqSigned_comm (a b : Signed) : eqSigned a b = eqSigned b a := by
  unfold eqSigned; rw [eqHead_comm, BEq.comm (a := a.node), sameB_comm]
theorem eqClaim_comm (a b : Claim) : eqClaim a b = eqClaim b a := by
  unfold eqClaim; rw [BEq.comm (a := a.region), BEq.comm (a := a.epoch), BEq.comm (a := a.node), BEq.comm (a := a.size), sameB_comm]
def rightE (e : Entry) : Prop :=
  (e.kind = 1 ∧ 1 ≤ e.client ∧ e.client ≤ 3 ∧ 1 ≤ e.seq ∧ e.seq ≤ 1000000 ∧ e.text.size ≤ 200 ∧ eqSigned e.head ⟨⟨0, 0, 0, dz, 0⟩, 0, dz⟩ = true ∧ eqClaim e.claim ⟨0, 0, 0, 0, dz⟩ = true) ∨
  (e.kind = 2 ∧ e.client = 0 ∧ e.seq = 0 ∧ e.text = ⟨#[]⟩ ∧ mayS e.head ∧ eqClaim e.claim ⟨0, 0, 0, 0, dz⟩ = true) ∨
  (e.kind = 3 ∧ e.client = 0 ∧ e.seq = 0 ∧ e.text = ⟨#[]⟩ ∧ eqSigned e.head ⟨⟨0, 0, 0, dz, 0⟩, 0, dz⟩ = true ∧ rightC e.claim)
instance (e : Entry) : Decidable (rightE e) := inferInstanceAs (Decidable (_ ∨ _))
def chkE (e : Entry) : Int := if rightE e then 0 else 60
theorem chkE_pos {e : Entry} (h : chkE e = 0) : rightE e := by
  unfold chkE at h
  split at h
  · assumption
  · omega
theorem chkE_neg {e : Entry} (h : ¬ chkE e = 0) : ¬ rightE e := fun q => h (if_pos q)
def rightI (x : Item) : Prop := 1 ≤ x.epoch ∧ x.epoch ≤ 900000000 ∧ rightE x.entry
instance (x : Item) : Decidable (rightI x) := inferInstanceAs (Decidable (_ ∧ _))
theorem checkE_zero {h : Head} : checkE h = 0 ↔ rightH h := by
  rw [checkE_eq]; split <;> simp [*]
theorem rightE_iff (e : Entry) : rightE e ↔ (
  (e.kind = 1 ∧ 1 ≤ e.client ∧ e.client ≤ 3 ∧ 1 ≤ e.seq ∧ e.seq ≤ 1000000 ∧ e.text.size ≤ 200 ∧ eqEnt ⟨e.kind, e.client, e.seq, e.text, ⟨⟨0, 0, 0, dz, 0⟩, 0, dz⟩, ⟨0, 0, 0, 0, dz⟩⟩ e = true) ∨
  (e.kind = 2 ∧ checkE e.head.head = 0 ∧ 1 ≤ e.head.node ∧ e.head.node ≤ 3 ∧ eqEnt ⟨e.kind, 0, 0, ⟨#[]⟩, e.head, ⟨0, 0, 0, 0, dz⟩⟩ e = true) ∨
  (e.kind = 3 ∧ chkC e.claim = 0 ∧ eqEnt ⟨e.kind, 0, 0, ⟨#[]⟩, ⟨⟨0, 0, 0, dz, 0⟩, 0, dz⟩, e.claim⟩ e = true)) := by
  have hc : chkC e.claim = 0 ↔ rightC e.claim := by unfold chkC; split <;> simp [*]
  have hz : (⟨#[]⟩ : ByteArray) = e.text ↔ e.text = ⟨#[]⟩ := eq_comm
  have h1 : (0 : Int) = e.client ↔ e.client = 0 := eq_comm
  have h2 : (0 : Int) = e.seq ↔ e.seq = 0 := eq_comm
  have h3 : (1 : Int) = e.kind ↔ e.kind = 1 := eq_comm
  have h4 : (2 : Int) = e.kind ↔ e.kind = 2 := eq_comm
  have h5 : (3 : Int) = e.kind ↔ e.kind = 3 := eq_comm
  simp only [rightE, eqEnt, hc, checkE_zero, mayS, eqSigned_refl, eqClaim_refl, BEq.rfl, Bool.true_and, Bool.and_true, Bool.and_eq_true, beq_iff_eq, eqSigned_comm ⟨⟨0, 0, 0, dz, 0⟩, 0, dz⟩, eqClaim_comm ⟨0, 0, 0, 0, dz⟩, hz, h1, h2, h3, h4, h5, and_assoc, and_left_comm, and_comm]
theorem EntCheck_ok (e : Entry) : CallL Tryd.prog G 69 [entV e] [] (.int .i64 (chkE e)) [] := by
  refine walk (fn := Tryd.f69) (nt := 67) rfl rfl rfl rfl ?_
  refine c_hole 2 (H' := [hole, hole]) rfl ?_
  refine c_seq (c_reg ?_)
  refine r_box (v := entV e) (b := bxB 109 (entC e)) (nid := 0) (H' := [bxB 109 (entC e), hole]) rfl rfl rfl (by kernel_rfl) (by kernel_rfl) ?_
  refine r_assign (v := .int .i64 0) rfl rfl rfl ?_
  refine r_doneN (x_then (c_seq (c_reg ?_)))
  refine r_fieldAddr (b := 0) (o := 0) (n := 0) (o' := 0) rfl rfl rfl rfl rfl ?_
  refine r_load (p := pt 0 0) (v := .int .i64 e.kind) rfl rfl rfl (by kernel_rfl) ?_
  refine r_build (vs := [(0, .int .i64 e.kind)]) (v := entV (⟨e.kind, 0, 0, ⟨#[]⟩, (⟨(⟨0, 0, 0, dz, 0⟩ : Head), 0, dz⟩ : Signed), (⟨0, 0, 0, 0, dz⟩ : Claim)⟩ : Entry)) rfl rfl rfl (by kernel_rfl) ?_
  refine r_alloc (b := bxB 109 (entC (⟨0, 0, 0, ⟨#[]⟩, (⟨(⟨0, 0, 0, dz, 0⟩ : Head), 0, dz⟩ : Signed), (⟨0, 0, 0, 0, dz⟩ : Claim)⟩ : Entry))) (nid := 1) (H' := [bxB 109 (entC e), bxB 109 (entC (⟨0, 0, 0, ⟨#[]⟩, (⟨(⟨0, 0, 0, dz, 0⟩ : Head), 0, dz⟩ : Signed), (⟨0, 0, 0, 0, dz⟩ : Claim)⟩ : Entry))]) rfl rfl (by kernel_rfl) (by kernel_rfl) ?_
  refine r_store (p := pt 1 0) (v := entV (⟨e.kind, 0, 0, ⟨#[]⟩, (⟨(⟨0, 0, 0, dz, 0⟩ : Head), 0, dz⟩ : Signed), (⟨0, 0, 0, 0, dz⟩ : Claim)⟩ : Entry)) (b := 1) (blk := bxB 109 (entC (⟨e.kind, 0, 0, ⟨#[]⟩, (⟨(⟨0, 0, 0, dz, 0⟩ : Head), 0, dz⟩ : Signed), (⟨0, 0, 0, 0, dz⟩ : Claim)⟩ : Entry))) (H' := [bxB 109 (entC e), bxB 109 (entC (⟨e.kind, 0, 0, ⟨#[]⟩, (⟨(⟨0, 0, 0, dz, 0⟩ : Head), 0, dz⟩ : Signed), (⟨0, 0, 0, 0, dz⟩ : Claim)⟩ : Entry))]) rfl rfl rfl (by kernel_rfl) (by kernel_rfl) ?_
  refine r_doneN (x_then (c_seq (c_reg ?_)))
  refine r_assign (v := .bool false) rfl rfl rfl ?_
  refine r_doneN (x_then (c_seq (c_seq (c_reg ?_))))
  refine r_fieldAddr (b := 0) (o := 0) (n := 0) (o' := 0) rfl rfl rfl rfl rfl ?_
  refine r_load (p := pt 0 0) (v := .int .i64 e.kind) rfl rfl rfl (by kernel_rfl) ?_
  refine r_doneN (x_then (c_block (c_seq (c_reg ?_))))
  by_cases h1 : e.kind = 1
  refine r_bin (v := .bool true) (vx := .int .i64 e.kind) (vy := .int .i64 1) rfl rfl rfl rfl (eql_t (by omega)) ?_
  refine r_assign (v := .bool true) rfl rfl rfl ?_
  refine r_doneN (x_then (c_true rfl (c_seq ?_)))
  refine c_draw (by kernel_rfl) ?_
  refine r_fieldAddr (b := 0) (o := 0) (n := 1) (o' := 1) rfl rfl rfl rfl rfl ?_
  refine r_load (p := pt 0 1) (v := .int .i64 e.client) rfl rfl rfl (by kernel_rfl) ?_
  refine r_fieldAddr (b := 0) (o := 0) (n := 2) (o' := 2) rfl rfl rfl rfl rfl ?_
  refine r_load (p := pt 0 2) (v := .int .i64 e.seq) rfl rfl rfl (by kernel_rfl) ?_
  refine r_fieldAddr (b := 0) (o := 0) (n := 3) (o' := 3) rfl rfl rfl rfl rfl ?_
  refine r_load (p := pt 0 3) (v := .string e.text) rfl rfl rfl (by kernel_rfl) ?_
  refine r_fieldAddr (b := 1) (o := 0) (n := 1) (o' := 1) rfl rfl rfl rfl rfl ?_
  refine r_store (p := pt 1 1) (v := .int .i64 e.client) (b := 1) (blk := bxB 109 (entC (⟨e.kind, e.client, 0, ⟨#[]⟩, (⟨(⟨0, 0, 0, dz, 0⟩ : Head), 0, dz⟩ : Signed), (⟨0, 0, 0, 0, dz⟩ : Claim)⟩ : Entry))) (H' := [bxB 109 (entC e), bxB 109 (entC (⟨e.kind, e.client, 0, ⟨#[]⟩, (⟨(⟨0, 0, 0, dz, 0⟩ : Head), 0, dz⟩ : Signed), (⟨0, 0, 0, 0, dz⟩ : Claim)⟩ : Entry))]) rfl rfl rfl (by kernel_rfl) (by kernel_rfl) ?_
  refine r_fieldAddr (b := 1) (o := 0) (n := 2) (o' := 2) rfl rfl rfl rfl rfl ?_
  refine r_store (p := pt 1 2) (v := .int .i64 e.seq) (b := 1) (blk := bxB 109 (entC (⟨e.kind, e.client, e.seq, ⟨#[]⟩, (⟨(⟨0, 0, 0, dz, 0⟩ : Head), 0, dz⟩ : Signed), (⟨0, 0, 0, 0, dz⟩ : Claim)⟩ : Entry))) (H' := [bxB 109 (entC e), bxB 109 (entC (⟨e.kind, e.client, e.seq, ⟨#[]⟩, (⟨(⟨0, 0, 0, dz, 0⟩ : Head), 0, dz⟩ : Signed), (⟨0, 0, 0, 0, dz⟩ : Claim)⟩ : Entry))]) rfl rfl rfl (by kernel_rfl) (by kernel_rfl) ?_
  refine r_fieldAddr (b := 1) (o := 0) (n := 3) (o' := 3) rfl rfl rfl rfl rfl ?_
  refine r_store (p := pt 1 3) (v := .string e.text) (b := 1) (blk := bxB 109 (entC (⟨e.kind, e.client, e.seq, e.text, (⟨(⟨0, 0, 0, dz, 0⟩ : Head), 0, dz⟩ : Signed), (⟨0, 0, 0, 0, dz⟩ : Claim)⟩ : Entry))) (H' := [bxB 109 (entC e), bxB 109 (entC (⟨e.kind, e.client, e.seq, e.text, (⟨(⟨0, 0, 0, dz, 0⟩ : Head), 0, dz⟩ : Signed), (⟨0, 0, 0, 0, dz⟩ : Claim)⟩ : Entry))]) rfl rfl rfl (by kernel_rfl) (by kernel_rfl) ?_
  refine r_doneD (drawnT_ok [[], [0], [], [2], [], [4], [0, 1], [0, 1, 6], [0, 1, 2, 3, 6, 7], [0, 1, 2, 3, 6, 7, 8], [0, 1, 2, 3, 4, 5, 6, 7, 8, 9], [0, 1, 2, 3, 4, 5, 6, 7, 8, 9, 10]] (by kernel_rfl) (by kernel_rfl)) ?_
  refine x_then (c_reg ?_)
  refine r_fieldAddr (b := 1) (o := 0) (n := 1) (o' := 1) rfl rfl rfl rfl rfl ?_
  refine r_load (p := pt 1 1) (v := .int .i64 e.client) rfl rfl rfl (by kernel_rfl) ?_
  by_cases h2 : 1 ≤ e.client
  by_cases h3 : e.client ≤ 3
  refine r_callP ((ewithin_ok (G := G) e.client 1 3).res (congrArg Value.bool (withinB_t (by omega) (by omega)))) (vals := [.int .i64 e.client, .int .i64 1, .int .i64 3]) (res' := .bool true) rfl rfl rfl rfl rfl rfl ?_
  refine r_move (v := .bool true) rfl rfl rfl ?_
  refine r_fieldAddr (b := 1) (o := 0) (n := 2) (o' := 2) rfl rfl rfl rfl rfl ?_
  refine r_load (p := pt 1 2) (v := .int .i64 e.seq) rfl rfl rfl (by kernel_rfl) ?_
  by_cases h4 : 1 ≤ e.seq
  by_cases h5 : e.seq ≤ 1000000
  refine r_callP ((ewithin_ok (G := G) e.seq 1 1000000).res (congrArg Value.bool (withinB_t (by omega) (by omega)))) (vals := [.int .i64 e.seq, .int .i64 1, .int .i64 1000000]) (res' := .bool true) rfl rfl rfl rfl rfl rfl ?_
  refine r_pick (v := .bool true) rfl rfl rfl ?_
  refine r_move (v := .bool true) rfl rfl rfl ?_
  refine r_fieldAddr (b := 1) (o := 0) (n := 3) (o' := 3) rfl rfl rfl rfl rfl ?_
  refine r_load (p := pt 1 3) (v := .string e.text) rfl rfl rfl (by kernel_rfl) ?_
  refine r_len (p := .string e.text) (v := .int .i64 (e.text.size : Nat)) rfl rfl rfl rfl ?_
  by_cases h6 : (e.text.size : Nat) ≤ 200
  refine r_bin (v := .bool true) (vx := .int .i64 (e.text.size : Nat)) (vy := .int .i64 200) rfl rfl rfl rfl (leq_t (by omega)) ?_
  refine r_pick (v := .bool true) rfl rfl rfl ?_
  refine r_assign (v := .bool true) rfl rfl rfl ?_
  refine r_doneN (x_blockN (x_then (c_seq (c_reg ?_))))
  refine r_move (v := .bool true) rfl rfl rfl ?_
  refine r_move (v := .bool true) rfl rfl rfl ?_
  refine r_load (p := pt 1 0) (v := entV (⟨e.kind, e.client, e.seq, e.text, (⟨(⟨0, 0, 0, dz, 0⟩ : Head), 0, dz⟩ : Signed), (⟨0, 0, 0, 0, dz⟩ : Claim)⟩ : Entry)) rfl rfl rfl (by kernel_rfl) ?_
  refine r_load (p := pt 0 0) (v := entV e) rfl rfl rfl (by kernel_rfl) ?_
  rcases Bool.eq_false_or_eq_true (eqEnt (⟨e.kind, e.client, e.seq, e.text, (⟨(⟨0, 0, 0, dz, 0⟩ : Head), 0, dz⟩ : Signed), (⟨0, 0, 0, 0, dz⟩ : Claim)⟩ : Entry) e) with h7 | h7
  refine r_bin (v := .bool true) (vx := entV (⟨e.kind, e.client, e.seq, e.text, (⟨(⟨0, 0, 0, dz, 0⟩ : Head), 0, dz⟩ : Signed), (⟨0, 0, 0, 0, dz⟩ : Claim)⟩ : Entry)) (vy := entV e) rfl rfl rfl rfl (Eq.trans (eql_Entry (⟨e.kind, e.client, e.seq, e.text, (⟨(⟨0, 0, 0, dz, 0⟩ : Head), 0, dz⟩ : Signed), (⟨0, 0, 0, 0, dz⟩ : Claim)⟩ : Entry) e) (by rw [h7] <;> rfl)) ?_
  refine r_pick (v := .bool true) rfl rfl rfl ?_
  refine r_callP (told_ok (G := G) true) (vals := [.bool true]) (res' := .int .i64 0) rfl rfl rfl rfl rfl rfl ?_
  refine r_assign (v := .int .i64 0) rfl rfl rfl ?_
  refine r_doneN (x_then (c_ret (x_end ?_)))
  rw [show chkE e = 0 from if_pos ((rightE_iff e).2 (by first | exact .inl ⟨by omega, by omega, by omega, by omega, by omega, by omega, by assumption⟩ | exact .inr (.inl ⟨by omega, by omega, by omega, by omega, by assumption⟩) | exact .inr (.inr ⟨by omega, by omega, by assumption⟩)))]
  exact end_same (v := .int .i64 0) rfl rfl rfl (by kernel_rfl) rfl
  refine r_bin (v := .bool false) (vx := entV (⟨e.kind, e.client, e.seq, e.text, (⟨(⟨0, 0, 0, dz, 0⟩ : Head), 0, dz⟩ : Signed), (⟨0, 0, 0, 0, dz⟩ : Claim)⟩ : Entry)) (vy := entV e) rfl rfl rfl rfl (Eq.trans (eql_Entry (⟨e.kind, e.client, e.seq, e.text, (⟨(⟨0, 0, 0, dz, 0⟩ : Head), 0, dz⟩ : Signed), (⟨0, 0, 0, 0, dz⟩ : Claim)⟩ : Entry) e) (by rw [h7] <;> rfl)) ?_
  refine r_pick (v := .bool false) rfl rfl rfl ?_
  refine r_callP (told_ok (G := G) false) (vals := [.bool false]) (res' := .int .i64 60) rfl rfl rfl rfl rfl rfl ?_
  refine r_assign (v := .int .i64 60) rfl rfl rfl ?_
  refine r_doneN (x_then (c_ret (x_end ?_)))
  rw [show chkE e = 60 from if_neg (fun q => by rcases (rightE_iff e).1 q with q | q | q <;> first | omega | (exact absurd (by first | exact q.2.2.2.2.2.2 | exact q.2.2.2.2 | exact q.2.2) (Bool.eq_false_iff.1 (by assumption))))]
  exact end_same (v := .int .i64 60) rfl rfl rfl (by kernel_rfl) rfl
  refine r_bin (v := .bool false) (vx := .int .i64 (e.text.size : Nat)) (vy := .int .i64 200) rfl rfl rfl rfl (leq_f (by omega)) ?_
  refine r_pick (v := .bool false) rfl rfl rfl ?_
  refine r_assign (v := .bool false) rfl rfl rfl ?_
  refine r_doneN (x_blockN (x_then (c_seq (c_reg ?_))))
  refine r_move (v := .bool false) rfl rfl rfl ?_
  refine r_move (v := .bool false) rfl rfl rfl ?_
  refine r_skip rfl rfl (r_skip rfl rfl (r_skip rfl rfl ?_))
  refine r_pick (v := .bool false) rfl rfl rfl ?_
  refine r_callP (told_ok (G := G) false) (vals := [.bool false]) (res' := .int .i64 60) rfl rfl rfl rfl rfl rfl ?_
  refine r_assign (v := .int .i64 60) rfl rfl rfl ?_
  refine r_doneN (x_then (c_ret (x_end ?_)))
  rw [show chkE e = 60 from if_neg (fun q => by rcases (rightE_iff e).1 q with q | q | q <;> first | omega | (exact absurd (by first | exact q.2.2.2.2.2.2 | exact q.2.2.2.2 | exact q.2.2) (Bool.eq_false_iff.1 (by assumption))))]
  exact end_same (v := .int .i64 60) rfl rfl rfl (by kernel_rfl) rfl
  refine r_callP ((ewithin_ok (G := G) e.seq 1 1000000).res (congrArg Value.bool (withinB_f (by omega)))) (vals := [.int .i64 e.seq, .int .i64 1, .int .i64 1000000]) (res' := .bool false) rfl rfl rfl rfl rfl rfl ?_
  refine r_pick (v := .bool false) rfl rfl rfl ?_
  refine r_move (v := .bool false) rfl rfl rfl ?_
  refine r_skip rfl rfl (r_skip rfl rfl (r_skip rfl rfl (r_skip rfl rfl ?_)))
  refine r_pick (v := .bool false) rfl rfl rfl ?_
  refine r_assign (v := .bool false) rfl rfl rfl ?_
  refine r_doneN (x_blockN (x_then (c_seq (c_reg ?_))))
  refine r_move (v := .bool false) rfl rfl rfl ?_
  refine r_move (v := .bool false) rfl rfl rfl ?_
  refine r_skip rfl rfl (r_skip rfl rfl (r_skip rfl rfl ?_))
  refine r_pick (v := .bool false) rfl rfl rfl ?_
  refine r_callP (told_ok (G := G) false) (vals := [.bool false]) (res' := .int .i64 60) rfl rfl rfl rfl rfl rfl ?_
  refine r_assign (v := .int .i64 60) rfl rfl rfl ?_
  refine r_doneN (x_then (c_ret (x_end ?_)))
  rw [show chkE e = 60 from if_neg (fun q => by rcases (rightE_iff e).1 q with q | q | q <;> first | omega | (exact absurd (by first | exact q.2.2.2.2.2.2 | exact q.2.2.2.2 | exact q.2.2) (Bool.eq_false_iff.1 (by assumption))))]
  exact end_same (v := .int .i64 60) rfl rfl rfl (by kernel_rfl) rfl
  refine r_callP ((ewithin_ok (G := G) e.seq 1 1000000).res (congrArg Value.bool (withinB_f (by omega)))) (vals := [.int .i64 e.seq, .int .i64 1, .int .i64 1000000]) (res' := .bool false) rfl rfl rfl rfl rfl rfl ?_
  refine r_pick (v := .bool false) rfl rfl rfl ?_
  refine r_move (v := .bool false) rfl rfl rfl ?_
  refine r_skip rfl rfl (r_skip rfl rfl (r_skip rfl rfl (r_skip rfl rfl ?_)))
  refine r_pick (v := .bool false) rfl rfl rfl ?_
  refine r_assign (v := .bool false) rfl rfl rfl ?_
  refine r_doneN (x_blockN (x_then (c_seq (c_reg ?_))))
  refine r_move (v := .bool false) rfl rfl rfl ?_
  refine r_move (v := .bool false) rfl rfl rfl ?_
  refine r_skip rfl rfl (r_skip rfl rfl (r_skip rfl rfl ?_))
  refine r_pick (v := .bool false) rfl rfl rfl ?_
  refine r_callP (told_ok (G := G) false) (vals := [.bool false]) (res' := .int .i64 60) rfl rfl rfl rfl rfl rfl ?_
  refine r_assign (v := .int .i64 60) rfl rfl rfl ?_
  refine r_doneN (x_then (c_ret (x_end ?_)))
  rw [show chkE e = 60 from if_neg (fun q => by rcases (rightE_iff e).1 q with q | q | q <;> first | omega | (exact absurd (by first | exact q.2.2.2.2.2.2 | exact q.2.2.2.2 | exact q.2.2) (Bool.eq_false_iff.1 (by assumption))))]
  exact end_same (v := .int .i64 60) rfl rfl rfl (by kernel_rfl) rfl
  refine r_callP ((ewithin_ok (G := G) e.client 1 3).res (congrArg Value.bool (withinB_f (by omega)))) (vals := [.int .i64 e.client, .int .i64 1, .int .i64 3]) (res' := .bool false) rfl rfl rfl rfl rfl rfl ?_
  refine r_move (v := .bool false) rfl rfl rfl ?_
  refine r_skip rfl rfl (r_skip rfl rfl (r_skip rfl rfl ?_))
  refine r_pick (v := .bool false) rfl rfl rfl ?_
  refine r_move (v := .bool false) rfl rfl rfl ?_
  refine r_skip rfl rfl (r_skip rfl rfl (r_skip rfl rfl (r_skip rfl rfl ?_)))
  refine r_pick (v := .bool false) rfl rfl rfl ?_
  refine r_assign (v := .bool false) rfl rfl rfl ?_
  refine r_doneN (x_blockN (x_then (c_seq (c_reg ?_))))
  refine r_move (v := .bool false) rfl rfl rfl ?_
  refine r_move (v := .bool false) rfl rfl rfl ?_
  refine r_skip rfl rfl (r_skip rfl rfl (r_skip rfl rfl ?_))
  refine r_pick (v := .bool false) rfl rfl rfl ?_
  refine r_callP (told_ok (G := G) false) (vals := [.bool false]) (res' := .int .i64 60) rfl rfl rfl rfl rfl rfl ?_
  refine r_assign (v := .int .i64 60) rfl rfl rfl ?_
  refine r_doneN (x_then (c_ret (x_end ?_)))
  rw [show chkE e = 60 from if_neg (fun q => by rcases (rightE_iff e).1 q with q | q | q <;> first | omega | (exact absurd (by first | exact q.2.2.2.2.2.2 | exact q.2.2.2.2 | exact q.2.2) (Bool.eq_false_iff.1 (by assumption))))]
  exact end_same (v := .int .i64 60) rfl rfl rfl (by kernel_rfl) rfl
  refine r_callP ((ewithin_ok (G := G) e.client 1 3).res (congrArg Value.bool (withinB_f (by omega)))) (vals := [.int .i64 e.client, .int .i64 1, .int .i64 3]) (res' := .bool false) rfl rfl rfl rfl rfl rfl ?_
  refine r_move (v := .bool false) rfl rfl rfl ?_
  refine r_skip rfl rfl (r_skip rfl rfl (r_skip rfl rfl ?_))
  refine r_pick (v := .bool false) rfl rfl rfl ?_
  refine r_move (v := .bool false) rfl rfl rfl ?_
  refine r_skip rfl rfl (r_skip rfl rfl (r_skip rfl rfl (r_skip rfl rfl ?_)))
  refine r_pick (v := .bool false) rfl rfl rfl ?_
  refine r_assign (v := .bool false) rfl rfl rfl ?_
  refine r_doneN (x_blockN (x_then (c_seq (c_reg ?_))))
  refine r_move (v := .bool false) rfl rfl rfl ?_
  refine r_move (v := .bool false) rfl rfl rfl ?_
  refine r_skip rfl rfl (r_skip rfl rfl (r_skip rfl rfl ?_))
  refine r_pick (v := .bool false) rfl rfl rfl ?_
  refine r_callP (told_ok (G := G) false) (vals := [.bool false]) (res' := .int .i64 60) rfl rfl rfl rfl rfl rfl ?_
  refine r_assign (v := .int .i64 60) rfl rfl rfl ?_
  refine r_doneN (x_then (c_ret (x_end ?_)))
  rw [show chkE e = 60 from if_neg (fun q => by rcases (rightE_iff e).1 q with q | q | q <;> first | omega | (exact absurd (by first | exact q.2.2.2.2.2.2 | exact q.2.2.2.2 | exact q.2.2) (Bool.eq_false_iff.1 (by assumption))))]
  exact end_same (v := .int .i64 60) rfl rfl rfl (by kernel_rfl) rfl
  refine r_bin (v := .bool false) (vx := .int .i64 e.kind) (vy := .int .i64 1) rfl rfl rfl rfl (eql_f (by omega)) ?_
  refine r_assign (v := .bool false) rfl rfl rfl ?_
  refine r_doneN (x_then (c_false rfl (c_seq (c_reg ?_))))
  by_cases h8 : e.kind = 2
  refine r_bin (v := .bool true) (vx := .int .i64 e.kind) (vy := .int .i64 2) rfl rfl rfl rfl (eql_t (by omega)) ?_
  refine r_assign (v := .bool true) rfl rfl rfl ?_
  refine r_doneN (x_then (c_true rfl (c_seq (c_reg ?_))))
  refine r_fieldAddr (b := 0) (o := 0) (n := 4) (o' := 4) rfl rfl rfl rfl rfl ?_
  refine r_load (p := pt 0 4) (v := signedV e.head) rfl rfl rfl (by kernel_rfl) ?_
  refine r_fieldAddr (b := 1) (o := 0) (n := 4) (o' := 4) rfl rfl rfl rfl rfl ?_
  refine r_store (p := pt 1 4) (v := signedV e.head) (b := 1) (blk := bxB 109 (entC (⟨e.kind, 0, 0, ⟨#[]⟩, e.head, (⟨0, 0, 0, 0, dz⟩ : Claim)⟩ : Entry))) (H' := [bxB 109 (entC e), bxB 109 (entC (⟨e.kind, 0, 0, ⟨#[]⟩, e.head, (⟨0, 0, 0, 0, dz⟩ : Claim)⟩ : Entry))]) rfl rfl rfl (by kernel_rfl) (by kernel_rfl) ?_
  refine r_doneN (x_then (c_reg ?_))
  refine r_fieldAddr (b := 1) (o := 0) (n := 4) (o' := 4) rfl rfl rfl rfl rfl ?_
  refine r_fieldAddr (b := 1) (o := 4) (n := 0) (o' := 4) rfl rfl rfl rfl rfl ?_
  refine r_load (p := pt 1 4) (v := headV e.head.head) rfl rfl rfl (by kernel_rfl) ?_
  refine r_callP (Check_ok (G := G) e.head.head) (vals := [headV e.head.head]) (res' := .int .i64 ((checkE e.head.head))) rfl rfl rfl rfl rfl rfl ?_
  by_cases h9 : ((checkE e.head.head)) = 0
  refine r_bin (v := .bool true) (vx := .int .i64 ((checkE e.head.head))) (vy := .int .i64 0) rfl rfl rfl rfl (eql_t (by omega)) ?_
  refine r_move (v := .bool true) rfl rfl rfl ?_
  refine r_fieldAddr (b := 1) (o := 0) (n := 4) (o' := 4) rfl rfl rfl rfl rfl ?_
  refine r_fieldAddr (b := 1) (o := 4) (n := 36) (o' := 40) rfl rfl rfl rfl rfl ?_
  refine r_load (p := pt 1 40) (v := .int .i64 e.head.node) rfl rfl rfl (by kernel_rfl) ?_
  by_cases h10 : 1 ≤ e.head.node
  by_cases h11 : e.head.node ≤ 3
  refine r_callP ((ewithin_ok (G := G) e.head.node 1 3).res (congrArg Value.bool (withinB_t (by omega) (by omega)))) (vals := [.int .i64 e.head.node, .int .i64 1, .int .i64 3]) (res' := .bool true) rfl rfl rfl rfl rfl rfl ?_
  refine r_pick (v := .bool true) rfl rfl rfl ?_
  refine r_assign (v := .bool true) rfl rfl rfl ?_
  refine r_doneN (x_blockN (x_then (c_seq (c_reg ?_))))
  refine r_move (v := .bool true) rfl rfl rfl ?_
  refine r_move (v := .bool true) rfl rfl rfl ?_
  refine r_load (p := pt 1 0) (v := entV (⟨e.kind, 0, 0, ⟨#[]⟩, e.head, (⟨0, 0, 0, 0, dz⟩ : Claim)⟩ : Entry)) rfl rfl rfl (by kernel_rfl) ?_
  refine r_load (p := pt 0 0) (v := entV e) rfl rfl rfl (by kernel_rfl) ?_
  rcases Bool.eq_false_or_eq_true (eqEnt (⟨e.kind, 0, 0, ⟨#[]⟩, e.head, (⟨0, 0, 0, 0, dz⟩ : Claim)⟩ : Entry) e) with h12 | h12
  refine r_bin (v := .bool true) (vx := entV (⟨e.kind, 0, 0, ⟨#[]⟩, e.head, (⟨0, 0, 0, 0, dz⟩ : Claim)⟩ : Entry)) (vy := entV e) rfl rfl rfl rfl (Eq.trans (eql_Entry (⟨e.kind, 0, 0, ⟨#[]⟩, e.head, (⟨0, 0, 0, 0, dz⟩ : Claim)⟩ : Entry) e) (by rw [h12] <;> rfl)) ?_
  refine r_pick (v := .bool true) rfl rfl rfl ?_
  refine r_callP (told_ok (G := G) true) (vals := [.bool true]) (res' := .int .i64 0) rfl rfl rfl rfl rfl rfl ?_
  refine r_assign (v := .int .i64 0) rfl rfl rfl ?_
  refine r_doneN (x_then (c_ret (x_end ?_)))
  rw [show chkE e = 0 from if_pos ((rightE_iff e).2 (by first | exact .inl ⟨by omega, by omega, by omega, by omega, by omega, by omega, by assumption⟩ | exact .inr (.inl ⟨by omega, by omega, by omega, by omega, by assumption⟩) | exact .inr (.inr ⟨by omega, by omega, by assumption⟩)))]
  exact end_same (v := .int .i64 0) rfl rfl rfl (by kernel_rfl) rfl
  refine r_bin (v := .bool false) (vx := entV (⟨e.kind, 0, 0, ⟨#[]⟩, e.head, (⟨0, 0, 0, 0, dz⟩ : Claim)⟩ : Entry)) (vy := entV e) rfl rfl rfl rfl (Eq.trans (eql_Entry (⟨e.kind, 0, 0, ⟨#[]⟩, e.head, (⟨0, 0, 0, 0, dz⟩ : Claim)⟩ : Entry) e) (by rw [h12] <;> rfl)) ?_
  refine r_pick (v := .bool false) rfl rfl rfl ?_
  refine r_callP (told_ok (G := G) false) (vals := [.bool false]) (res' := .int .i64 60) rfl rfl rfl rfl rfl rfl ?_
  refine r_assign (v := .int .i64 60) rfl rfl rfl ?_
  refine r_doneN (x_then (c_ret (x_end ?_)))
  rw [show chkE e = 60 from if_neg (fun q => by rcases (rightE_iff e).1 q with q | q | q <;> first | omega | (exact absurd (by first | exact q.2.2.2.2.2.2 | exact q.2.2.2.2 | exact q.2.2) (Bool.eq_false_iff.1 (by assumption))))]
  exact end_same (v := .int .i64 60) rfl rfl rfl (by kernel_rfl) rfl
  refine r_callP ((ewithin_ok (G := G) e.head.node 1 3).res (congrArg Value.bool (withinB_f (by omega)))) (vals := [.int .i64 e.head.node, .int .i64 1, .int .i64 3]) (res' := .bool false) rfl rfl rfl rfl rfl rfl ?_
  refine r_pick (v := .bool false) rfl rfl rfl ?_
  refine r_assign (v := .bool false) rfl rfl rfl ?_
  refine r_doneN (x_blockN (x_then (c_seq (c_reg ?_))))
  refine r_move (v := .bool false) rfl rfl rfl ?_
  refine r_move (v := .bool false) rfl rfl rfl ?_
  refine r_skip rfl rfl (r_skip rfl rfl (r_skip rfl rfl ?_))
  refine r_pick (v := .bool false) rfl rfl rfl ?_
  refine r_callP (told_ok (G := G) false) (vals := [.bool false]) (res' := .int .i64 60) rfl rfl rfl rfl rfl rfl ?_
  refine r_assign (v := .int .i64 60) rfl rfl rfl ?_
  refine r_doneN (x_then (c_ret (x_end ?_)))
  rw [show chkE e = 60 from if_neg (fun q => by rcases (rightE_iff e).1 q with q | q | q <;> first | omega | (exact absurd (by first | exact q.2.2.2.2.2.2 | exact q.2.2.2.2 | exact q.2.2) (Bool.eq_false_iff.1 (by assumption))))]
  exact end_same (v := .int .i64 60) rfl rfl rfl (by kernel_rfl) rfl
  refine r_callP ((ewithin_ok (G := G) e.head.node 1 3).res (congrArg Value.bool (withinB_f (by omega)))) (vals := [.int .i64 e.head.node, .int .i64 1, .int .i64 3]) (res' := .bool false) rfl rfl rfl rfl rfl rfl ?_
  refine r_pick (v := .bool false) rfl rfl rfl ?_
  refine r_assign (v := .bool false) rfl rfl rfl ?_
  refine r_doneN (x_blockN (x_then (c_seq (c_reg ?_))))
  refine r_move (v := .bool false) rfl rfl rfl ?_
  refine r_move (v := .bool false) rfl rfl rfl ?_
  refine r_skip rfl rfl (r_skip rfl rfl (r_skip rfl rfl ?_))
  refine r_pick (v := .bool false) rfl rfl rfl ?_
  refine r_callP (told_ok (G := G) false) (vals := [.bool false]) (res' := .int .i64 60) rfl rfl rfl rfl rfl rfl ?_
  refine r_assign (v := .int .i64 60) rfl rfl rfl ?_
  refine r_doneN (x_then (c_ret (x_end ?_)))
  rw [show chkE e = 60 from if_neg (fun q => by rcases (rightE_iff e).1 q with q | q | q <;> first | omega | (exact absurd (by first | exact q.2.2.2.2.2.2 | exact q.2.2.2.2 | exact q.2.2) (Bool.eq_false_iff.1 (by assumption))))]
  exact end_same (v := .int .i64 60) rfl rfl rfl (by kernel_rfl) rfl
  refine r_bin (v := .bool false) (vx := .int .i64 ((checkE e.head.head))) (vy := .int .i64 0) rfl rfl rfl rfl (eql_f (by omega)) ?_
  refine r_move (v := .bool false) rfl rfl rfl ?_
  refine r_skip rfl rfl (r_skip rfl rfl (r_skip rfl rfl (r_skip rfl rfl ?_)))
  refine r_pick (v := .bool false) rfl rfl rfl ?_
  refine r_assign (v := .bool false) rfl rfl rfl ?_
  refine r_doneN (x_blockN (x_then (c_seq (c_reg ?_))))
  refine r_move (v := .bool false) rfl rfl rfl ?_
  refine r_move (v := .bool false) rfl rfl rfl ?_
  refine r_skip rfl rfl (r_skip rfl rfl (r_skip rfl rfl ?_))
  refine r_pick (v := .bool false) rfl rfl rfl ?_
  refine r_callP (told_ok (G := G) false) (vals := [.bool false]) (res' := .int .i64 60) rfl rfl rfl rfl rfl rfl ?_
  refine r_assign (v := .int .i64 60) rfl rfl rfl ?_
  refine r_doneN (x_then (c_ret (x_end ?_)))
  rw [show chkE e = 60 from if_neg (fun q => by rcases (rightE_iff e).1 q with q | q | q <;> first | omega | (exact absurd (by first | exact q.2.2.2.2.2.2 | exact q.2.2.2.2 | exact q.2.2) (Bool.eq_false_iff.1 (by assumption))))]
  exact end_same (v := .int .i64 60) rfl rfl rfl (by kernel_rfl) rfl
  refine r_bin (v := .bool false) (vx := .int .i64 e.kind) (vy := .int .i64 2) rfl rfl rfl rfl (eql_f (by omega)) ?_
  refine r_assign (v := .bool false) rfl rfl rfl ?_
  refine r_doneN (x_then (c_false rfl (c_seq (c_reg ?_))))
  by_cases h13 : e.kind = 3
  refine r_bin (v := .bool true) (vx := .int .i64 e.kind) (vy := .int .i64 3) rfl rfl rfl rfl (eql_t (by omega)) ?_
  refine r_assign (v := .bool true) rfl rfl rfl ?_
  refine r_doneN (x_then (c_true rfl (c_seq (c_reg ?_))))
  refine r_fieldAddr (b := 0) (o := 0) (n := 73) (o' := 73) rfl rfl rfl rfl rfl ?_
  refine r_load (p := pt 0 73) (v := claimV e.claim) rfl rfl rfl (by kernel_rfl) ?_
  refine r_fieldAddr (b := 1) (o := 0) (n := 73) (o' := 73) rfl rfl rfl rfl rfl ?_
  refine r_store (p := pt 1 73) (v := claimV e.claim) (b := 1) (blk := bxB 109 (entC (⟨e.kind, 0, 0, ⟨#[]⟩, (⟨(⟨0, 0, 0, dz, 0⟩ : Head), 0, dz⟩ : Signed), e.claim⟩ : Entry))) (H' := [bxB 109 (entC e), bxB 109 (entC (⟨e.kind, 0, 0, ⟨#[]⟩, (⟨(⟨0, 0, 0, dz, 0⟩ : Head), 0, dz⟩ : Signed), e.claim⟩ : Entry))]) rfl rfl rfl (by kernel_rfl) (by kernel_rfl) ?_
  refine r_doneN (x_then (c_reg ?_))
  refine r_fieldAddr (b := 1) (o := 0) (n := 73) (o' := 73) rfl rfl rfl rfl rfl ?_
  refine r_load (p := pt 1 73) (v := claimV e.claim) rfl rfl rfl (by kernel_rfl) ?_
  refine r_callP (CheckClaim_ok (G := G) e.claim) (vals := [claimV e.claim]) (res' := .int .i64 ((chkC e.claim))) rfl rfl rfl rfl rfl rfl ?_
  by_cases h14 : ((chkC e.claim)) = 0
  refine r_bin (v := .bool true) (vx := .int .i64 ((chkC e.claim))) (vy := .int .i64 0) rfl rfl rfl rfl (eql_t (by omega)) ?_
  refine r_assign (v := .bool true) rfl rfl rfl ?_
  refine r_doneN (x_blockN (x_then (c_seq (c_reg ?_))))
  refine r_move (v := .bool true) rfl rfl rfl ?_
  refine r_move (v := .bool true) rfl rfl rfl ?_
  refine r_load (p := pt 1 0) (v := entV (⟨e.kind, 0, 0, ⟨#[]⟩, (⟨(⟨0, 0, 0, dz, 0⟩ : Head), 0, dz⟩ : Signed), e.claim⟩ : Entry)) rfl rfl rfl (by kernel_rfl) ?_
  refine r_load (p := pt 0 0) (v := entV e) rfl rfl rfl (by kernel_rfl) ?_
  rcases Bool.eq_false_or_eq_true (eqEnt (⟨e.kind, 0, 0, ⟨#[]⟩, (⟨(⟨0, 0, 0, dz, 0⟩ : Head), 0, dz⟩ : Signed), e.claim⟩ : Entry) e) with h15 | h15
  refine r_bin (v := .bool true) (vx := entV (⟨e.kind, 0, 0, ⟨#[]⟩, (⟨(⟨0, 0, 0, dz, 0⟩ : Head), 0, dz⟩ : Signed), e.claim⟩ : Entry)) (vy := entV e) rfl rfl rfl rfl (Eq.trans (eql_Entry (⟨e.kind, 0, 0, ⟨#[]⟩, (⟨(⟨0, 0, 0, dz, 0⟩ : Head), 0, dz⟩ : Signed), e.claim⟩ : Entry) e) (by rw [h15] <;> rfl)) ?_
  refine r_pick (v := .bool true) rfl rfl rfl ?_
  refine r_callP (told_ok (G := G) true) (vals := [.bool true]) (res' := .int .i64 0) rfl rfl rfl rfl rfl rfl ?_
  refine r_assign (v := .int .i64 0) rfl rfl rfl ?_
  refine r_doneN (x_then (c_ret (x_end ?_)))
  rw [show chkE e = 0 from if_pos ((rightE_iff e).2 (by first | exact .inl ⟨by omega, by omega, by omega, by omega, by omega, by omega, by assumption⟩ | exact .inr (.inl ⟨by omega, by omega, by omega, by omega, by assumption⟩) | exact .inr (.inr ⟨by omega, by omega, by assumption⟩)))]
  exact end_same (v := .int .i64 0) rfl rfl rfl (by kernel_rfl) rfl
  refine r_bin (v := .bool false) (vx := entV (⟨e.kind, 0, 0, ⟨#[]⟩, (⟨(⟨0, 0, 0, dz, 0⟩ : Head), 0, dz⟩ : Signed), e.claim⟩ : Entry)) (vy := entV e) rfl rfl rfl rfl (Eq.trans (eql_Entry (⟨e.kind, 0, 0, ⟨#[]⟩, (⟨(⟨0, 0, 0, dz, 0⟩ : Head), 0, dz⟩ : Signed), e.claim⟩ : Entry) e) (by rw [h15] <;> rfl)) ?_
  refine r_pick (v := .bool false) rfl rfl rfl ?_
  refine r_callP (told_ok (G := G) false) (vals := [.bool false]) (res' := .int .i64 60) rfl rfl rfl rfl rfl rfl ?_
  refine r_assign (v := .int .i64 60) rfl rfl rfl ?_
  refine r_doneN (x_then (c_ret (x_end ?_)))
  rw [show chkE e = 60 from if_neg (fun q => by rcases (rightE_iff e).1 q with q | q | q <;> first | omega | (exact absurd (by first | exact q.2.2.2.2.2.2 | exact q.2.2.2.2 | exact q.2.2) (Bool.eq_false_iff.1 (by assumption))))]
  exact end_same (v := .int .i64 60) rfl rfl rfl (by kernel_rfl) rfl
  refine r_bin (v := .bool false) (vx := .int .i64 ((chkC e.claim))) (vy := .int .i64 0) rfl rfl rfl rfl (eql_f (by omega)) ?_
  refine r_assign (v := .bool false) rfl rfl rfl ?_
  refine r_doneN (x_blockN (x_then (c_seq (c_reg ?_))))
  refine r_move (v := .bool false) rfl rfl rfl ?_
  refine r_move (v := .bool false) rfl rfl rfl ?_
  refine r_skip rfl rfl (r_skip rfl rfl (r_skip rfl rfl ?_))
  refine r_pick (v := .bool false) rfl rfl rfl ?_
  refine r_callP (told_ok (G := G) false) (vals := [.bool false]) (res' := .int .i64 60) rfl rfl rfl rfl rfl rfl ?_
  refine r_assign (v := .int .i64 60) rfl rfl rfl ?_
  refine r_doneN (x_then (c_ret (x_end ?_)))
  rw [show chkE e = 60 from if_neg (fun q => by rcases (rightE_iff e).1 q with q | q | q <;> first | omega | (exact absurd (by first | exact q.2.2.2.2.2.2 | exact q.2.2.2.2 | exact q.2.2) (Bool.eq_false_iff.1 (by assumption))))]
  exact end_same (v := .int .i64 60) rfl rfl rfl (by kernel_rfl) rfl
  refine r_bin (v := .bool false) (vx := .int .i64 e.kind) (vy := .int .i64 3) rfl rfl rfl rfl (eql_f (by omega)) ?_
  refine r_assign (v := .bool false) rfl rfl rfl ?_
  refine r_doneN (x_then (c_false rfl (c_skip (x_blockN (x_then (c_seq (c_reg ?_)))))))
  refine r_move (v := .bool false) rfl rfl rfl ?_
  refine r_move (v := .bool false) rfl rfl rfl ?_
  refine r_skip rfl rfl (r_skip rfl rfl (r_skip rfl rfl ?_))
  refine r_pick (v := .bool false) rfl rfl rfl ?_
  refine r_callP (told_ok (G := G) false) (vals := [.bool false]) (res' := .int .i64 60) rfl rfl rfl rfl rfl rfl ?_
  refine r_assign (v := .int .i64 60) rfl rfl rfl ?_
  refine r_doneN (x_then (c_ret (x_end ?_)))
  rw [show chkE e = 60 from if_neg (fun q => by rcases (rightE_iff e).1 q with q | q | q <;> first | omega | (exact absurd (by first | exact q.2.2.2.2.2.2 | exact q.2.2.2.2 | exact q.2.2) (Bool.eq_false_iff.1 (by assumption))))]
  exact end_same (v := .int .i64 60) rfl rfl rfl (by kernel_rfl) rfl
end Go.Flat
