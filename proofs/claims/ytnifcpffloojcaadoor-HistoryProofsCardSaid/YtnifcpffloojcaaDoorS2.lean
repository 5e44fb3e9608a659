/- Walks and plain laws: what each theorem says, within the bounds that it names. -/
import Derived.Test.YtnifcpffloojcaaDoorS1
set_option linter.unusedVariables false
set_option linter.unusedSimpArgs false
set_option maxRecDepth 20000
namespace Go.Flat
open Go.Proofs
variable {G : Glob}
theorem goodF_atI : ∀ (l : List Item) (ep : Int) (i : Nat), goodF ep l = true → i < l.length → rightI (l.getD i default)
  | [], _, i, _, h => absurd h (by simp)
  | x :: l, ep, 0, h, _ => by
    rw [goodF, Bool.and_eq_true, Bool.and_eq_true] at h
    exact of_decide_eq_true h.1.1
  | x :: l, ep, i + 1, h, hi => by
    rw [goodF, Bool.and_eq_true] at h
    exact goodF_atI l x.epoch i h.2 (by simpa using hi)
def sizH (l : List Item) (k : Int) : Int := if rightL l then (if 0 ≤ k ∧ k ≤ l.length then 0 else 21) else 100
theorem sizH_0 {l : List Item} {k : Int} (h : sizH l k = 0) : rightL l ∧ 0 ≤ k ∧ k ≤ l.length := by
  unfold sizH at h
  split at h
  · split at h
    · exact ⟨by assumption, by assumption⟩
    · omega
  · omega
theorem firL_siz {kk : Nat → BitVec 32} {l : List Item} {k : Int} : (firL kk l k).2 = sizH l k := by
  unfold firL sizH
  split
  · split <;> rfl
  · rfl
theorem refSize_ok (l : List Item) (n c : Nat) (hn : l.length = n) (hc : n ≤ c) (hb : n ≤ 1048576) (k : Int) : CallL Tryd.prog G 32 [slv 0 0 n c, .int .i64 k] [rwR cItem l] (.int .i64 (sizH l k)) [rwR cItem l] := by
  refine walk (fn := Tryd.f32) (nt := 16) rfl rfl rfl rfl ?_
  refine c_seq (c_reg ?_)
  refine r_assign (v := .int .i64 0) rfl rfl rfl ?_
  refine r_doneN (x_then (c_seq (c_seq (c_reg ?_))))
  refine r_move (v := slv 0 0 n c) rfl rfl rfl ?_
  refine r_callN (e := [some (0, 0)]) (nid := 0) (refRightL_ok (G := G) l n c hn (by omega) (by omega)) (vals := [slv 0 0 n c]) (v := .bool (decide (rightL l))) (H' := [rwR cItem l]) rfl rfl rfl rfl rfl rfl rfl ⟨⟨⟨rfl, rfl, rfl, by first | omega | exact Nat.le_refl _, by first | omega | exact Nat.le_refl _⟩, trivial⟩, ⟨(emb_rwR rfl), trivial⟩, rfl, rfl, rfl⟩ rfl (by kernel_rfl) ?_
  rcases Bool.eq_false_or_eq_true (decide (rightL l)) with h1 | h1
  refine r_un (v := .bool false) (vx := .bool (decide (rightL l))) rfl rfl rfl (Eq.trans un_not (congrArg (fun b => some (Value.bool !b)) h1)) ?_
  refine r_doneN (x_then (c_false rfl (c_skip (x_then (c_seq (c_seq (c_reg ?_)))))))
  refine r_move (v := .int .i64 k) rfl rfl rfl ?_
  by_cases h2 : k < 0
  refine r_bin (v := .bool true) (vx := .int .i64 k) (vy := .int .i64 0) rfl rfl rfl rfl (lss_t (by omega)) ?_
  refine r_move (v := .bool true) rfl rfl rfl ?_
  refine r_skip rfl rfl (r_skip rfl rfl (r_skip rfl rfl (r_skip rfl rfl ?_)))
  refine r_pick (v := .bool true) rfl rfl rfl ?_
  refine r_doneN (x_then (c_true rfl (c_seq (c_reg ?_))))
  refine r_assign (v := .int .i64 21) rfl rfl rfl ?_
  refine r_doneN (x_then (c_ret (x_thenR (x_end ?_))))
  rw [show sizH l k = 21 from by unfold sizH; rw [if_pos (of_decide_eq_true (by assumption)), if_neg (by omega)]]
  exact end_same (v := .int .i64 21) rfl rfl rfl (by kernel_rfl) rfl
  refine r_bin (v := .bool false) (vx := .int .i64 k) (vy := .int .i64 0) rfl rfl rfl rfl (lss_f (by omega)) ?_
  refine r_move (v := .bool false) rfl rfl rfl ?_
  refine r_move (v := .int .i64 k) rfl rfl rfl ?_
  refine r_move (v := slv 0 0 n c) rfl rfl rfl ?_
  refine r_len (p := slv 0 0 n c) (v := .int .i64 (n : Nat)) rfl rfl rfl rfl ?_
  by_cases h3 : (n : Nat) < k
  refine r_bin (v := .bool true) (vx := .int .i64 k) (vy := .int .i64 (n : Nat)) rfl rfl rfl rfl (gtr_t (by omega)) ?_
  refine r_pick (v := .bool true) rfl rfl rfl ?_
  refine r_doneN (x_then (c_true rfl (c_seq (c_reg ?_))))
  refine r_assign (v := .int .i64 21) rfl rfl rfl ?_
  refine r_doneN (x_then (c_ret (x_thenR (x_end ?_))))
  rw [show sizH l k = 21 from by unfold sizH; rw [if_pos (of_decide_eq_true (by assumption)), if_neg (by omega)]]
  exact end_same (v := .int .i64 21) rfl rfl rfl (by kernel_rfl) rfl
  refine r_bin (v := .bool false) (vx := .int .i64 k) (vy := .int .i64 (n : Nat)) rfl rfl rfl rfl (gtr_f (by omega)) ?_
  refine r_pick (v := .bool false) rfl rfl rfl ?_
  refine r_doneN (x_then (c_false rfl (c_skip (x_then (c_seq (c_reg ?_))))))
  refine r_assign (v := .int .i64 0) rfl rfl rfl ?_
  refine r_doneN (x_then (c_ret (x_end ?_)))
  rw [show sizH l k = 0 from by unfold sizH; rw [if_pos (of_decide_eq_true (by assumption)), if_pos (by omega)]]
  exact end_same (v := .int .i64 0) rfl rfl rfl (by kernel_rfl) rfl
  refine r_un (v := .bool true) (vx := .bool (decide (rightL l))) rfl rfl rfl (Eq.trans un_not (congrArg (fun b => some (Value.bool !b)) h1)) ?_
  refine r_doneN (x_then (c_true rfl (c_seq (c_reg ?_))))
  refine r_assign (v := .int .i64 100) rfl rfl rfl ?_
  refine r_doneN (x_then (c_ret (x_thenR (x_end ?_))))
  rw [show sizH l k = 100 from if_neg (of_decide_eq_false (by assumption))]
  exact end_same (v := .int .i64 100) rfl rfl rfl (by kernel_rfl) rfl
end Go.Flat
