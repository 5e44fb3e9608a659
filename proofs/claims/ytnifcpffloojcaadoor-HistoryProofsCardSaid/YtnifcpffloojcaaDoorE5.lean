/- Walks and plain laws: what each theorem says, within the bounds that it names. -/
import Derived.Test.YtnifcpffloojcaaDoorE4
set_option linter.unusedVariables false
set_option linter.unusedSimpArgs false
set_option maxRecDepth 20000
namespace Go.Flat
open Go.Proofs
variable {G : Glob}
def userI (client seq : Int) : Item := ⟨1, ⟨1, client, seq, ⟨#[]⟩, ⟨⟨0, 0, 0, dz, 0⟩, 0, dz⟩, ⟨0, 0, 0, 0, dz⟩⟩⟩
theorem bigB_len {l : List Item} (h : bigB l = false) : l.length ≤ 60 := by
  unfold bigB at h
  rw [Bool.or_eq_false_iff] at h
  have := of_decide_eq_false h.1; omega
theorem user_ok (client seq : Int) : CallL Tryd.prog G 36 [.int .i64 client, .int .i64 seq] [] (itemV (userI client seq)) [] := by
  refine walk (fn := Tryd.f36) (nt := 9) rfl rfl rfl rfl ?_
  refine c_hole 1 (H' := [hole]) rfl ?_
  refine c_seq (c_reg ?_)
  refine r_alloc (b := bxB 110 (itemC (⟨0, (⟨0, 0, 0, ⟨#[]⟩, (⟨(⟨0, 0, 0, dz, 0⟩ : Head), 0, dz⟩ : Signed), (⟨0, 0, 0, 0, dz⟩ : Claim)⟩ : Entry)⟩ : Item))) (nid := 0) (H' := [bxB 110 (itemC (⟨0, (⟨0, 0, 0, ⟨#[]⟩, (⟨(⟨0, 0, 0, dz, 0⟩ : Head), 0, dz⟩ : Signed), (⟨0, 0, 0, 0, dz⟩ : Claim)⟩ : Entry)⟩ : Item))]) rfl rfl (by kernel_rfl) (by kernel_rfl) ?_
  refine r_doneN (x_then (c_seq (c_reg ?_)))
  refine r_move (v := .int .i64 client) rfl rfl rfl ?_
  refine r_move (v := .int .i64 seq) rfl rfl rfl ?_
  refine r_build (vs := [(0, .int .i64 1), (1, .int .i64 client), (2, .int .i64 seq)]) (v := entV (⟨1, client, seq, ⟨#[]⟩, (⟨(⟨0, 0, 0, dz, 0⟩ : Head), 0, dz⟩ : Signed), (⟨0, 0, 0, 0, dz⟩ : Claim)⟩ : Entry)) rfl rfl rfl (by kernel_rfl) ?_
  refine r_build (vs := [(0, .int .i64 1), (1, entV (⟨1, client, seq, ⟨#[]⟩, (⟨(⟨0, 0, 0, dz, 0⟩ : Head), 0, dz⟩ : Signed), (⟨0, 0, 0, 0, dz⟩ : Claim)⟩ : Entry))]) (v := itemV (⟨1, (⟨1, client, seq, ⟨#[]⟩, (⟨(⟨0, 0, 0, dz, 0⟩ : Head), 0, dz⟩ : Signed), (⟨0, 0, 0, 0, dz⟩ : Claim)⟩ : Entry)⟩ : Item)) rfl rfl rfl (by kernel_rfl) ?_
  refine r_store (p := pt 0 0) (v := itemV (⟨1, (⟨1, client, seq, ⟨#[]⟩, (⟨(⟨0, 0, 0, dz, 0⟩ : Head), 0, dz⟩ : Signed), (⟨0, 0, 0, 0, dz⟩ : Claim)⟩ : Entry)⟩ : Item)) (b := 0) (blk := bxB 110 (itemC (⟨1, (⟨1, client, seq, ⟨#[]⟩, (⟨(⟨0, 0, 0, dz, 0⟩ : Head), 0, dz⟩ : Signed), (⟨0, 0, 0, 0, dz⟩ : Claim)⟩ : Entry)⟩ : Item))) (H' := [bxB 110 (itemC (⟨1, (⟨1, client, seq, ⟨#[]⟩, (⟨(⟨0, 0, 0, dz, 0⟩ : Head), 0, dz⟩ : Signed), (⟨0, 0, 0, 0, dz⟩ : Claim)⟩ : Entry)⟩ : Item))]) rfl rfl rfl (by kernel_rfl) (by kernel_rfl) ?_
  refine r_doneN (x_then (c_ret (x_end ?_)))
  exact end_same (v := itemV (⟨1, (⟨1, client, seq, ⟨#[]⟩, (⟨(⟨0, 0, 0, dz, 0⟩ : Head), 0, dz⟩ : Signed), (⟨0, 0, 0, 0, dz⟩ : Claim)⟩ : Entry)⟩ : Item)) (by kernel_rfl) rfl rfl (by kernel_rfl) (argV_pure (by kernel_rfl) rfl)
end Go.Flat
