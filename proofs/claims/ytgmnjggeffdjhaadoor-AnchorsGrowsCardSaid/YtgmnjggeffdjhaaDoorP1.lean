/- Walks and plain laws: what each theorem says, within the bounds that it names. -/
import Derived.Test.YtgmnjggeffdjhaaDoorE3
import Derived.Test.YtgmnjggeffdjhaaDoorH8
set_option linter.unusedVariables false
set_option linter.unusedSimpArgs false
set_option maxRecDepth 20000
namespace Go.Flat
open Go.Proofs
variable {G : Glob}
def cInt : Cod Int := ⟨fun z => [.int .i64 z], 1, fun _ => rfl, by decide⟩
def claimF (c : Claim) : List Field := [⟨1, (numS c.region).1⟩, ⟨2, (numS c.epoch).1⟩, ⟨3, (numS c.node).1⟩, ⟨4, (numS c.size).1⟩, ⟨5, strOf (dgL c.root)⟩]
theorem claimF_step (c : Claim) (i : Nat) (hi : i < 4) : (claimF c).take i ++ [⟨((i : Nat) : Int) + 1, (numS ([c.region, c.epoch, c.node, c.size].getD i default)).1⟩] = (claimF c).take (i + 1) := by
  rcases i with _ | _ | _ | _ | i
  · rfl
  · rfl
  · rfl
  · rfl
  · omega
theorem claim_int {c : Claim} (hc : (1 ≤ c.region ∧ c.region ≤ 5) ∧ (1 ≤ c.epoch ∧ c.epoch ≤ 900000000) ∧ (1 ≤ c.node ∧ c.node ≤ 3) ∧ (0 ≤ c.size ∧ c.size ≤ 100000)) (i : Nat) (hi : i < 4) : -9223372036854775808 ≤ [c.region, c.epoch, c.node, c.size].getD i default ∧ [c.region, c.epoch, c.node, c.size].getD i default ≤ 9223372036854775807 := by
  rcases i with _ | _ | _ | _ | i
  · show _ ≤ c.region ∧ c.region ≤ _; omega
  · show _ ≤ c.epoch ∧ c.epoch ≤ _; omega
  · show _ ≤ c.node ∧ c.node ≤ _; omega
  · show _ ≤ c.size ∧ c.size ≤ _; omega
  · omega
theorem claimF_ok (c : Claim) : (layF (claimF c) 0 []).2 = 0 := by
  have h1 := numS_size c.region
  have h2 := numS_size c.epoch
  have h3 := numS_size c.node
  have h4 := numS_size c.size
  have h5 : (strOf (dgL c.root)).size = 32 := by rw [strOf_size, dgL_len]
  have h := layF_rowX [(numS c.region).1, (numS c.epoch).1, (numS c.node).1, (numS c.size).1, strOf (dgL c.root)] 0 [] (by simp) (by
    intro x hx
    simp only [List.mem_cons, List.not_mem_nil, or_false] at hx
    rcases hx with rfl | rfl | rfl | rfl | rfl <;> omega)
  show (layF (rowF 0 [(numS c.region).1, (numS c.epoch).1, (numS c.node).1, (numS c.size).1, strOf (dgL c.root)]) ((0 : Nat) : Int) []).2 = 0
  rw [h]
def putC (c : Claim) : Bs × Int := if rightC c then ((layF (claimF c) 0 []).1, 0) else ([], 60)
theorem putC_len (c : Claim) : (putC c).1.length ≤ 100 := by
  unfold putC
  split
  · have := layF_len (claimF c) 0 []
    have h1 := numS_size c.region
    have h2 := numS_size c.epoch
    have h3 := numS_size c.node
    have h4 := numS_size c.size
    simp only [claimF, sumF, strOf_size, dgL_len, List.length_nil] at this
    show (layF (claimF c) 0 []).1.length ≤ 100
    simp only [claimF]; omega
  · exact Nat.zero_le _
theorem fs_s_ok (ls : List Field) (n : Nat) (tag : Int) (x : ByteArray) (hn : ls.length = n) (hb : n ≤ 1000) : CallL Tryd.prog G 120 [pt 0 0, .int .i64 tag, .string x] [rfB (slv 1 0 n n), rwB cFd ls] (.tuple #[]) [rfB (slv 1 0 (n + 1) (n + 1)), rwB cFd (ls ++ [⟨tag, x⟩])] := by
  refine walk (fn := Tryd.f120) (nt := 16) rfl rfl rfl rfl ?_
  refine c_hole 1 (H' := [rfB (slv 1 0 n n), rwB cFd ls, hole]) rfl ?_
  refine c_reg ?_
  refine r_move (v := pt 0 0) rfl rfl rfl ?_
  refine r_move (v := pt 0 0) rfl rfl rfl ?_
  refine r_nilCheck (p := pt 0 0) (v := pt 0 0) rfl rfl rfl rfl ?_
  refine r_load (p := pt 0 0) (v := slv 1 0 n n) rfl rfl rfl rfl ?_
  refine r_move (v := .int .i64 tag) rfl rfl rfl ?_
  refine r_move (v := .string x) rfl rfl rfl ?_
  refine r_build (vs := [(0, .int .i64 tag), (1, .string x)]) (v := fdV (⟨tag, x⟩ : Field)) rfl rfl rfl (by kernel_rfl) ?_
  refine r_lit (vs := [(0, fdV (⟨tag, x⟩ : Field))]) (v := slv 2 0 1 1) (blk := rwB cFd [(⟨tag, x⟩ : Field)]) (nid := 2) (H' := [rfB (slv 1 0 n n), rwB cFd ls, rwB cFd [(⟨tag, x⟩ : Field)]]) rfl rfl rfl (by kernel_rfl) (by kernel_rfl) ?_
  have hl2 : (ls ++ [(⟨tag, x⟩ : Field)]).length = n + 1 := by have := hn; have := (rfl : _ = 1); first | (rw [List.length_append]; omega) | (simp; omega) | simp
  refine r_append (p := slv 1 0 n n) (q := slv 2 0 1 1) (v := slv 1 0 (n + 1) (n + 1)) (b := 1) (blk := rwB cFd (ls ++ [(⟨tag, x⟩ : Field)])) (H' := [rfB (dead), rwB cFd (ls ++ [(⟨tag, x⟩ : Field)]), rwB cFd [(⟨tag, x⟩ : Field)]]) rfl rfl rfl (.inl ⟨_, rfl⟩) rfl rfl (appD_rw cFd (by_ := 24) (k := 1) (n' := n + 1) (ms := [(⟨tag, x⟩ : Field)]) (fun _ => rfl) rfl rfl (by kernel_rfl) rfl rfl (by have := hn; omega) (by omega) (by decide) (by omega)) rfl (by kernel_rfl) ?_
  refine r_nilCheck (p := pt 0 0) (v := pt 0 0) rfl rfl rfl rfl ?_
  refine r_store (p := pt 0 0) (v := slv 1 0 (n + 1) (n + 1)) (b := 0) (blk := rfB (slv 1 0 (n + 1) (n + 1))) (H' := [rfB (slv 1 0 (n + 1) (n + 1)), rwB cFd (ls ++ [(⟨tag, x⟩ : Field)]), rwB cFd [(⟨tag, x⟩ : Field)]]) rfl rfl rfl (by kernel_rfl) (by kernel_rfl) ?_
  refine r_doneN (x_endN ?_)
  exact end_same (v := .tuple #[]) rfl rfl rfl (by simp [keptB, rfB, rwB, cFd, okId, okId0]) trivial
theorem fs_n_ok (ls : List Field) (n : Nat) (tag x : Int) (hn : ls.length = n) (hb : n ≤ 1000) (hl : -9223372036854775808 ≤ x) (hh : x ≤ 9223372036854775807) : CallL Tryd.prog G 119 [pt 0 0, .int .i64 tag, .int .i64 x] [rfB (slv 1 0 n n), rwB cFd ls] (.tuple #[]) [rfB (slv 1 0 (n + 1) (n + 1)), rwB cFd (ls ++ [⟨tag, (numS x).1⟩])] := by
  refine walk (fn := Tryd.f119) (nt := 17) rfl rfl rfl rfl ?_
  refine c_seq (c_reg ?_)
  refine r_move (v := .int .i64 x) rfl rfl rfl ?_
  refine r_callP (Number_ok (G := G) x (by omega) (by omega)) (vals := [.int .i64 x]) (res' := .tuple #[.string ((numS x).1), .int .i64 (((numS x).2))]) rfl rfl rfl rfl rfl (by kernel_rfl) ?_
  refine r_move (v := .tuple #[.string ((numS x).1), .int .i64 (((numS x).2))]) rfl rfl rfl ?_
  refine r_extract (vs := #[.string ((numS x).1), .int .i64 (((numS x).2))]) (v := .string ((numS x).1)) rfl rfl rfl rfl ?_
  refine r_extract (vs := #[.string ((numS x).1), .int .i64 (((numS x).2))]) (v := .int .i64 (((numS x).2))) rfl rfl rfl rfl ?_
  refine r_assign (v := .string ((numS x).1)) rfl rfl rfl ?_
  refine r_assign (v := .int .i64 (((numS x).2))) rfl rfl rfl ?_
  refine r_doneN (x_then (c_reg ?_))
  refine r_move (v := pt 0 0) rfl rfl rfl ?_
  refine r_move (v := .int .i64 tag) rfl rfl rfl ?_
  refine r_move (v := .string ((numS x).1)) rfl rfl rfl ?_
  refine r_call (e := [some (0, 0), some (1, 0)]) (nid := 0) (fs_s_ok (G := G) ls n tag ((numS x).1) hn (by omega)) (vals := [pt 0 0, .int .i64 tag, .string ((numS x).1)]) (v := .tuple #[]) (H' := [rfB (slv 1 0 (n + 1) (n + 1)), rwB cFd (ls ++ [(⟨tag, (numS x).1⟩ : Field)])]) rfl rfl rfl rfl rfl rfl ⟨⟨⟨rfl, rfl⟩, rfl, rfl, trivial⟩, ⟨(emb_wr rfl rfl rfl rfl), (emb_wr rfl rfl rfl rfl), trivial⟩, rfl, rfl, rfl, Nat.le_refl _⟩ (by kernel_rfl) rfl (by kernel_rfl) ?_
  refine r_doneN (x_endN ?_)
  exact end_same (v := .tuple #[]) rfl rfl rfl (by simp [keptB, rfB, rwB, cFd, okId, okId0]) trivial
theorem fs_bytes_ok (fs : List Field) (n c : Nat) (hn : fs.length = n) (hc : n ≤ c) (hb : n ≤ 1000) : CallL Tryd.prog G 121 [slv 0 0 n c] [rwR cFd fs] (.tuple #[slv 1 0 (layF fs 0 []).1.length (layF fs 0 []).1.length, .int .i64 (layF fs 0 []).2]) [rwR cFd fs, rowB (layF fs 0 []).1] := by
  refine walk (fn := Tryd.f121) (nt := 8) rfl rfl rfl rfl ?_
  refine c_hole 1 (H' := [rwR cFd fs, hole]) rfl ?_
  refine c_seq (c_reg ?_)
  refine r_assign (v := .slice none 0 0) rfl rfl rfl ?_
  refine r_assign (v := .int .i64 0) rfl rfl rfl ?_
  refine r_doneN (x_then (c_seq (c_reg ?_)))
  refine r_move (v := slv 0 0 n c) rfl rfl rfl ?_
  refine r_callN (e := [some (0, 0)]) (nid := 1) (Lay_ok (G := G) fs n c hn (by omega) (by omega)) (vals := [slv 0 0 n c]) (v := .tuple #[slv 1 0 ((layF fs 0 []).1.length) ((layF fs 0 []).1.length), .int .i64 (((layF fs 0 []).2))]) (H' := [rwR cFd fs, rowB ((layF fs 0 []).1)]) rfl rfl rfl rfl rfl rfl rfl ⟨⟨⟨rfl, rfl, rfl, by first | omega | exact Nat.le_refl _, by first | omega | exact Nat.le_refl _⟩, trivial⟩, ⟨(emb_rwR rfl), trivial⟩, rfl, rfl, rfl⟩ (by kernel_rfl) (by kernel_rfl) ?_
  refine r_extract (vs := #[slv 1 0 ((layF fs 0 []).1.length) ((layF fs 0 []).1.length), .int .i64 (((layF fs 0 []).2))]) (v := slv 1 0 ((layF fs 0 []).1.length) ((layF fs 0 []).1.length)) rfl rfl rfl rfl ?_
  refine r_extract (vs := #[slv 1 0 ((layF fs 0 []).1.length) ((layF fs 0 []).1.length), .int .i64 (((layF fs 0 []).2))]) (v := .int .i64 (((layF fs 0 []).2))) rfl rfl rfl rfl ?_
  refine r_assign (v := slv 1 0 ((layF fs 0 []).1.length) ((layF fs 0 []).1.length)) rfl rfl rfl ?_
  refine r_assign (v := .int .i64 (((layF fs 0 []).2))) rfl rfl rfl ?_
  refine r_doneN (x_then (c_ret (x_end ?_)))
  exact end_map [0, 1] (v := .tuple #[slv 1 0 ((layF fs 0 []).1.length) ((layF fs 0 []).1.length), .int .i64 (((layF fs 0 []).2))]) rfl (by kernel_rfl) rfl rfl (by decide) (by simp [keptB, rwR, rowB, cFd]) ⟨⟨rfl, rfl, rfl, by first | omega | exact Nat.le_refl _ | exact Nat.zero_le _ | (dsimp only; omega), by first | omega | exact Nat.le_refl _ | exact Nat.zero_le _ | (dsimp only; omega)⟩, rfl, trivial⟩
theorem PutClaim_ok (c : Claim) : CallL Tryd.prog G 123 [claimV c] [] (.tuple #[slv 0 0 (putC c).1.length (putC c).1.length, .int .i64 (putC c).2]) [rowB (putC c).1] := by
  refine walk (fn := Tryd.f123) (nt := 41) rfl rfl rfl rfl ?_
  refine c_hole 4 (H' := [hole, hole, hole, hole]) rfl ?_
  refine c_seq (c_reg ?_)
  refine r_box (v := claimV c) (b := bxB 36 (claimC c)) (nid := 0) (H' := [bxB 36 (claimC c), hole, hole, hole]) rfl rfl rfl (by kernel_rfl) (by kernel_rfl) ?_
  refine r_assign (v := .slice none 0 0) rfl rfl rfl ?_
  refine r_assign (v := .int .i64 0) rfl rfl rfl ?_
  refine r_doneN (x_then (c_seq (c_seq (c_reg ?_))))
  refine r_load (p := pt 0 0) (v := claimV c) rfl rfl rfl (by kernel_rfl) ?_
  refine r_callP (CheckClaim_ok (G := G) c) (vals := [claimV c]) (res' := .int .i64 ((chkC c))) rfl rfl rfl rfl rfl rfl ?_
  refine r_assign (v := .int .i64 ((chkC c))) rfl rfl rfl ?_
  refine r_doneN (x_then (c_seq (c_reg ?_)))
  refine r_move (v := .int .i64 ((chkC c))) rfl rfl rfl ?_
  by_cases h1 : ((chkC c)) ≠ 0
  refine r_bin (v := .bool true) (vx := .int .i64 ((chkC c))) (vy := .int .i64 0) rfl rfl rfl rfl (neq_t (by omega)) ?_
  refine r_doneN (x_then (c_true rfl (c_seq (c_reg ?_))))
  refine r_move (v := .int .i64 ((chkC c))) rfl rfl rfl ?_
  refine r_assign (v := .slice none 0 0) rfl rfl rfl ?_
  refine r_assign (v := .int .i64 ((chkC c))) rfl rfl rfl ?_
  refine r_doneN (x_then ?_)
  refine c_weak (Weak.nilTmp (i := 2) (b := 1) true 1 rfl (by decide) rfl) ?_
  refine c_ret (x_thenR (x_end ?_))
  rw [show putC c = ([], ((chkC c))) from if_neg (fun q => chkC_neg (c := c) (by omega) q) |>.trans (by first | rfl | (unfold chkC; rw [if_neg (chkC_neg (c := c) (by omega))]))]
  exact end_map [1] (v := .tuple #[slv 1 0 0 0, .int .i64 ((chkC c))]) rfl (by kernel_rfl) rfl rfl (by decide) (by simp [keptB, rowB]) ⟨⟨rfl, rfl, rfl, by first | omega | exact Nat.le_refl _ | exact Nat.zero_le _ | (dsimp only; omega), by first | omega | exact Nat.le_refl _ | exact Nat.zero_le _ | (dsimp only; omega)⟩, rfl, trivial⟩
  refine r_bin (v := .bool false) (vx := .int .i64 ((chkC c))) (vy := .int .i64 0) rfl rfl rfl rfl (neq_f (by omega)) ?_
  refine r_doneN (x_then (c_false rfl (c_skip (x_then (c_seq (c_reg ?_))))))
  refine r_alloc (b := rfB (.slice none 0 0)) (nid := 1) (H' := [bxB 36 (claimC c), rfB (.slice none 0 0), hole, hole]) rfl rfl (by kernel_rfl) (by kernel_rfl) ?_
  refine r_doneN (x_then (c_seq (c_seq ?_)))
  have hc := chkC_pos (c := c) (by omega)
  unfold rightC at hc
  refine c_weak (Weak.nilCell (k := 1) (j := 0) (b := 2) true 2 rfl (by decide) rfl (by show 0 < 1; decide) rfl rfl) ?_
  refine c_reg ?_
  refine r_fieldAddr (b := 0) (o := 0) (n := 0) (o' := 0) rfl rfl rfl rfl rfl ?_
  refine r_load (p := pt 0 0) (v := .int .i64 c.region) rfl rfl rfl (by kernel_rfl) ?_
  refine r_fieldAddr (b := 0) (o := 0) (n := 1) (o' := 1) rfl rfl rfl rfl rfl ?_
  refine r_load (p := pt 0 1) (v := .int .i64 c.epoch) rfl rfl rfl (by kernel_rfl) ?_
  refine r_fieldAddr (b := 0) (o := 0) (n := 2) (o' := 2) rfl rfl rfl rfl rfl ?_
  refine r_load (p := pt 0 2) (v := .int .i64 c.node) rfl rfl rfl (by kernel_rfl) ?_
  refine r_fieldAddr (b := 0) (o := 0) (n := 3) (o' := 3) rfl rfl rfl rfl rfl ?_
  refine r_load (p := pt 0 3) (v := .int .i64 c.size) rfl rfl rfl (by kernel_rfl) ?_
  refine r_lit (vs := [(0, .int .i64 c.region), (1, .int .i64 c.epoch), (2, .int .i64 c.node), (3, .int .i64 c.size)]) (v := slv 3 0 4 4) (blk := rwB cInt [c.region, c.epoch, c.node, c.size]) (nid := 3) (H' := [bxB 36 (claimC c), rfB (slv 2 0 0 0), rwB cFd [], rwB cInt [c.region, c.epoch, c.node, c.size]]) rfl rfl rfl (by kernel_rfl) (by kernel_rfl) ?_
  refine r_len (p := slv 3 0 4 4) (v := .int .i64 4) rfl rfl rfl rfl ?_
  refine r_move (v := .int .i64 0) rfl rfl rfl ?_
  refine r_doneN (x_then (c_block ?_))
  refine c_loopN (fun x : Nat × (List Field) => match x with | (i, acc) => [claimV c, pt 0 0, .slice none 0 0, .int .i64 0, .int .i64 ((chkC c)), pt 1 0, dead, dead, claimV c, .int .i64 ((chkC c)), .int .i64 ((chkC c)), .bool false, dead, pt 0 0, .int .i64 c.region, pt 0 1, .int .i64 c.epoch, pt 0 2, .int .i64 c.node, pt 0 3, .int .i64 c.size, slv 3 0 4 4, .int .i64 4, .int .i64 (i : Nat)]) (fun x : Nat × (List Field) => match x with | (i, acc) => [bxB 36 (claimC c), rfB (slv 2 0 i i), rwB cFd acc, rwB cInt [c.region, c.epoch, c.node, c.size]]) (fun x : Nat × (List Field) => match x with | (i, acc) => acc = (claimF c).take i ∧ i ≤ 4 ∧ acc.length = i) (fun x : Nat × (List Field) => match x with | (i, acc) => 4 - i) (0, []) ⟨rfl, by omega, rfl⟩ ?_ ?_
  · refine weak_to (n := 4) rfl ?_ (by kernel_rfl) (by kernel_rfl)
    repeat (first | exact trivial | refine ⟨.inl rfl, ?_⟩ | refine ⟨.inr ⟨rfl, rfl⟩, ?_⟩ | refine ⟨.inr ⟨congrArg (Value.int .i64) (by first | omega | (dsimp only; omega)), rfl⟩, ?_⟩)
  rintro ⟨i, acc⟩ ⟨hR, hi, ha⟩
  dsimp only at *
  refine c_hole 1 (H' := [bxB 36 (claimC c), rfB (slv 2 0 i i), rwB cFd acc, rwB cInt [c.region, c.epoch, c.node, c.size], hole]) rfl ?_
  refine c_seq (c_reg ?_)
  by_cases h2 : (i : Nat) < 4
  refine r_bin (v := .bool true) (vx := .int .i64 (i : Nat)) (vy := .int .i64 4) rfl rfl rfl rfl (lss_t (by omega)) ?_
  refine r_doneN (x_then (c_seq (c_true rfl (c_skip (x_then (c_seq (c_block (c_seq (c_reg ?_)))))))))
  refine r_move (v := .int .i64 (i : Nat)) rfl rfl rfl ?_
  refine r_idxS (b := 3) (o := 0) (j := i) (m := 4) (c := 4) (sz := 1) (i := (i : Nat)) (k := .i64) rfl rfl rfl rfl rfl (by omega) (by omega) (by omega) ?_
  refine r_load (p := pt 3 i) (v := .int .i64 ((([c.region, c.epoch, c.node, c.size]).getD i default))) rfl rfl rfl (load_rw1 (m := 1) cInt (l := [c.region, c.epoch, c.node, c.size]) (i := i) rfl rfl rfl rfl (by have := (rfl : _ = 4); omega) (by omega) rfl rfl) ?_
  refine r_assign (v := .int .i64 (i : Nat)) rfl rfl rfl ?_
  refine r_assign (v := .int .i64 ((([c.region, c.epoch, c.node, c.size]).getD i default))) rfl rfl rfl ?_
  refine r_doneN (x_then ?_)
  have hx := claim_int hc i (by omega)
  refine c_reg ?_
  refine r_move (v := .int .i64 (i : Nat)) rfl rfl rfl ?_
  refine r_bin (v := .int .i64 ((i : Nat) + 1)) (vx := .int .i64 (i : Nat)) (vy := .int .i64 1) rfl rfl rfl rfl (bin_add (by omega) (by omega) (by omega)) ?_
  refine r_move (v := .int .i64 ((([c.region, c.epoch, c.node, c.size]).getD i default))) rfl rfl rfl ?_
  refine r_call (e := [some (1, 0), some (2, 0)]) (nid := 0) (fs_n_ok (G := G) acc i ((i : Nat) + 1) ((([c.region, c.epoch, c.node, c.size]).getD i default)) ha (by omega) (by omega) (by omega)) (vals := [pt 1 0, .int .i64 ((i : Nat) + 1), .int .i64 ((([c.region, c.epoch, c.node, c.size]).getD i default))]) (v := .tuple #[]) (H' := [bxB 36 (claimC c), rfB (slv 2 0 (i + 1) (i + 1)), rwB cFd (acc ++ [(⟨(i : Nat) + 1, (numS ((([c.region, c.epoch, c.node, c.size]).getD i default))).1⟩ : Field)]), rwB cInt [c.region, c.epoch, c.node, c.size], hole]) rfl rfl rfl rfl rfl rfl ⟨⟨⟨rfl, rfl⟩, rfl, rfl, trivial⟩, ⟨(emb_wr rfl rfl rfl rfl), (emb_wr rfl rfl rfl rfl), trivial⟩, rfl, rfl, rfl, Nat.le_refl _⟩ (by kernel_rfl) rfl (by kernel_rfl) ?_
  refine r_doneN (x_blockN (x_then (c_reg ?_)))
  refine r_bin (v := .int .i64 ((i : Nat) + 1)) (vx := .int .i64 (i : Nat)) (vy := .int .i64 1) rfl rfl rfl rfl (bin_add (by omega) (by omega) (by omega)) ?_
  refine r_move (v := .int .i64 ((i : Nat) + 1)) rfl rfl rfl ?_
  refine r_doneN ?_
  refine x_round ⟨((i + 1), (acc ++ [(⟨(i : Nat) + 1, (numS ((([c.region, c.epoch, c.node, c.size]).getD i default))).1⟩ : Field)])), ⟨by dsimp only; rw [hR]; exact claimF_step c i (by omega), by dsimp only; omega, by rw [List.length_append, ha]; rfl⟩, by show 4 - (i + 1) < 4 - i; omega, ?_⟩
  refine weak_to (n := 4) rfl ?_ (by kernel_rfl) (by kernel_rfl)
  repeat (first | exact trivial | refine ⟨.inl rfl, ?_⟩ | refine ⟨.inr ⟨rfl, rfl⟩, ?_⟩ | refine ⟨.inr ⟨congrArg (Value.int .i64) (by first | omega | (dsimp only; omega)), rfl⟩, ?_⟩)
  refine r_bin (v := .bool false) (vx := .int .i64 (i : Nat)) (vy := .int .i64 4) rfl rfl rfl rfl (lss_f (by omega)) ?_
  refine r_doneN (x_then (c_seq (c_false rfl (c_exit (x_thenE (x_leaveE (x_block rfl (x_then (c_seq ?_)))))))))
  have hi4 : i = 4 := by omega
  refine c_reg ?_
  refine r_fieldAddr (b := 0) (o := 0) (n := 4) (o' := 4) rfl rfl rfl rfl rfl ?_
  refine r_slice (p := pt 0 4) (vl := none) (vh := none) (v := slv 0 4 32 32) rfl rfl rfl rfl rfl rfl ?_
  refine r_str (p := slv 0 4 32 32) (v := .string (strOf (dgL c.root))) rfl rfl rfl (strD_row (l := (dgL c.root)) rfl rfl rfl rfl (of_decide_eq_true (by kernel_rfl)) (by kernel_rfl)) ?_
  refine r_call (e := [some (1, 0), some (2, 0)]) (nid := 0) (fs_s_ok (G := G) acc i 5 (strOf (dgL c.root)) ha (by omega)) (vals := [pt 1 0, .int .i64 5, .string (strOf (dgL c.root))]) (v := .tuple #[]) (H' := [bxB 36 (claimC c), rfB (slv 2 0 (i + 1) (i + 1)), rwB cFd (acc ++ [(⟨5, (strOf (dgL c.root))⟩ : Field)]), rwB cInt [c.region, c.epoch, c.node, c.size], hole]) rfl rfl rfl rfl rfl rfl ⟨⟨⟨rfl, rfl⟩, rfl, rfl, trivial⟩, ⟨(emb_wr rfl rfl rfl rfl), (emb_wr rfl rfl rfl rfl), trivial⟩, rfl, rfl, rfl, Nat.le_refl _⟩ (by kernel_rfl) rfl (by kernel_rfl) ?_
  refine r_doneN (x_then (c_seq (c_reg ?_)))
  refine r_load (p := pt 1 0) (v := slv 2 0 (i + 1) (i + 1)) rfl rfl rfl rfl ?_
  refine r_callN (e := [some (2, 0)]) (nid := 4) (fs_bytes_ok (G := G) (acc ++ [(⟨5, (strOf (dgL c.root))⟩ : Field)]) (i + 1) (i + 1) (by rw [List.length_append, ha]; rfl) (by omega) (by omega)) (vals := [slv 2 0 (i + 1) (i + 1)]) (v := .tuple #[slv 4 0 ((layF (acc ++ [(⟨5, (strOf (dgL c.root))⟩ : Field)]) 0 []).1.length) ((layF (acc ++ [(⟨5, (strOf (dgL c.root))⟩ : Field)]) 0 []).1.length), .int .i64 (((layF (acc ++ [(⟨5, (strOf (dgL c.root))⟩ : Field)]) 0 []).2))]) (H' := [bxB 36 (claimC c), rfB (slv 2 0 (i + 1) (i + 1)), rwB cFd (acc ++ [(⟨5, (strOf (dgL c.root))⟩ : Field)]), rwB cInt [c.region, c.epoch, c.node, c.size], rowB ((layF (acc ++ [(⟨5, (strOf (dgL c.root))⟩ : Field)]) 0 []).1)]) rfl rfl rfl rfl rfl rfl rfl ⟨⟨⟨rfl, rfl, rfl, by first | omega | exact Nat.le_refl _, by first | omega | exact Nat.le_refl _⟩, trivial⟩, ⟨(emb_rwB rfl), trivial⟩, rfl, rfl, rfl⟩ (by kernel_rfl) (by kernel_rfl) ?_
  refine r_extract (vs := #[slv 4 0 ((layF (acc ++ [(⟨5, (strOf (dgL c.root))⟩ : Field)]) 0 []).1.length) ((layF (acc ++ [(⟨5, (strOf (dgL c.root))⟩ : Field)]) 0 []).1.length), .int .i64 (((layF (acc ++ [(⟨5, (strOf (dgL c.root))⟩ : Field)]) 0 []).2))]) (v := slv 4 0 ((layF (acc ++ [(⟨5, (strOf (dgL c.root))⟩ : Field)]) 0 []).1.length) ((layF (acc ++ [(⟨5, (strOf (dgL c.root))⟩ : Field)]) 0 []).1.length)) rfl rfl rfl rfl ?_
  refine r_extract (vs := #[slv 4 0 ((layF (acc ++ [(⟨5, (strOf (dgL c.root))⟩ : Field)]) 0 []).1.length) ((layF (acc ++ [(⟨5, (strOf (dgL c.root))⟩ : Field)]) 0 []).1.length), .int .i64 (((layF (acc ++ [(⟨5, (strOf (dgL c.root))⟩ : Field)]) 0 []).2))]) (v := .int .i64 (((layF (acc ++ [(⟨5, (strOf (dgL c.root))⟩ : Field)]) 0 []).2))) rfl rfl rfl rfl ?_
  refine r_assign (v := slv 4 0 ((layF (acc ++ [(⟨5, (strOf (dgL c.root))⟩ : Field)]) 0 []).1.length) ((layF (acc ++ [(⟨5, (strOf (dgL c.root))⟩ : Field)]) 0 []).1.length)) rfl rfl rfl ?_
  refine r_assign (v := .int .i64 (((layF (acc ++ [(⟨5, (strOf (dgL c.root))⟩ : Field)]) 0 []).2))) rfl rfl rfl ?_
  refine r_doneN (x_then (c_ret (x_end ?_)))
  have e : acc ++ [(⟨5, strOf (dgL c.root)⟩ : Field)] = claimF c := by rw [hR, hi4]; rfl
  have ez := claimF_ok c
  rw [← e] at ez
  rw [show putC c = ((layF (acc ++ [(⟨5, strOf (dgL c.root)⟩ : Field)]) 0 []).1, (layF (acc ++ [(⟨5, strOf (dgL c.root)⟩ : Field)]) 0 []).2) from by rw [ez, e]; exact if_pos (chkC_pos (by omega))]
  exact end_map [4] (v := .tuple #[slv 4 0 ((layF (acc ++ [(⟨5, (strOf (dgL c.root))⟩ : Field)]) 0 []).1.length) ((layF (acc ++ [(⟨5, (strOf (dgL c.root))⟩ : Field)]) 0 []).1.length), .int .i64 (((layF (acc ++ [(⟨5, (strOf (dgL c.root))⟩ : Field)]) 0 []).2))]) rfl (by kernel_rfl) rfl rfl (by decide) (by simp [keptB, rowB]) ⟨⟨rfl, rfl, rfl, by first | omega | exact Nat.le_refl _ | exact Nat.zero_le _ | (dsimp only; omega), by first | omega | exact Nat.le_refl _ | exact Nat.zero_le _ | (dsimp only; omega)⟩, rfl, trivial⟩
end Go.Flat
