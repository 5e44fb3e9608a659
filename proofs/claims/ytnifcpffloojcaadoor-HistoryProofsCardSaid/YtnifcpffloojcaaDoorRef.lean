/- Walks of the reference's sum and tree: they come to what the program's come to. -/
import Derived.Test.YtnifcpffloojcaaDoorSha
import Derived.Test.YtnifcpffloojcaaDoorFlatC
import Derived.Test.YtnifcpffloojcaaDoorLast
section
set_option linter.unusedVariables false
set_option linter.unusedSimpArgs false
set_option maxRecDepth 20000
namespace Go.Flat
open Go.Proofs
variable {G : Glob}
def turnF (x : BitVec 32) (n : Nat) : BitVec 32 := x >>> n ||| x <<< (32 - n)
theorem turn_ok (x : BitVec 32) (n : Int) (h : 0 ≤ n ∧ n ≤ 32) : CallL Tryd.prog G 100 [w32 x, .int .i64 n] [] (w32 (turnF x n.toNat)) [] := by
  refine walk (fn := Tryd.f100) (nt := 13) rfl rfl rfl rfl ?_
  repeat (first
    | ((with_reducible apply r_move); rfl; rfl; (exact (rfl : _ = Value.int _ _)))
    | ((with_reducible apply r_assign); rfl; rfl; (exact (rfl : _ = Value.int _ _)))
    | ((with_reducible apply r_bin); rfl; rfl; (exact (rfl : _ = Value.int _ _)); (exact (rfl : _ = Value.int _ _)); (first
    | with_reducible exact bin_sub rfl (by omega) (by omega)
    | with_reducible exact or32 (by first | exact ofI _ _ | rfl) (by first | exact ofI _ _ | rfl)
    | with_reducible exact shl32 (by first | exact ofI _ _ | rfl) (by omega)
    | with_reducible exact shr32 (by omega)))
    | with_reducible refine r_doneN ?_
    | with_reducible refine c_reg ?_
    | with_reducible refine c_seq ?_
    | with_reducible refine c_ret ?_
    | with_reducible refine x_then ?_
    | (with_reducible refine r_doneD (by kernel_rfl) ?_)
    | (with_reducible refine c_draw (by kernel_rfl) ?_))
  refine x_end ?_
  refine end_pv (v := .int _ _) rfl rfl ?_
  have : (32 - n).toNat = 32 - n.toNat := by omega
  simp only [turnF, this]
theorem turnC (k : Nat) (x : BitVec 32) (h : k ≤ 32) : CallL Tryd.prog G 100 [w32 x, .int .i64 (k : Nat)] [] (w32 (turnF x k)) [] := turn_ok x k (by omega)
def wB64 (w : Nat → BitVec 32) : Blk := { cells := rowE w32 64 w, sz := 64, wr := true, fix := true, mv := false, pur := true }
def inR (b : Nat → BitVec 8) : Nat → Nat → BitVec 32
  | 0 => fun _ => 0
  | k + 1 => updN (inR b k) (k / 4) (inR b k (k / 4) * BitVec.ofInt 32 256 + (b k).setWidth 32)
def refW (w : Nat → BitVec 32) (t : Nat) : BitVec 32 := w (t - 16) + w (t - 7) + (turnF (w (t - 15)) 7 ^^^ turnF (w (t - 15)) 18 ^^^ w (t - 15) >>> 3) + (turnF (w (t - 2)) 17 ^^^ turnF (w (t - 2)) 19 ^^^ w (t - 2) >>> 10)
def schR (b : Nat → BitVec 8) : Nat → Nat → BitVec 32
  | 0 => inR b 64
  | k + 1 => updN (schR b k) (16 + k) (refW (schR b k) (16 + k))
set_option maxHeartbeats 8000000 in
theorem words_ok (b : Nat → BitVec 8) (c : Nat) : CallL Tryd.prog G 99 [sl 0 0 64 c] [byB 64 b] (.agg (rowE w32 64 (schR b 48)).toArray) [byB 64 b] := by
  refine walk (fn := Tryd.f99) (nt := 74) rfl rfl rfl rfl ?_
  refine c_hole 2 (H' := [byB 64 b, hole, hole]) rfl ?_
  repeat (first
    | ((with_reducible apply r_assign); rfl; rfl; (exact (rfl : _ = Value.int _ _)))
    | ((with_reducible apply r_alloc (nid := 1)); rfl; rfl; rfl; exact (rfl : _ = _ :: _))
    | ((with_reducible apply r_alloc (nid := 2)); rfl; rfl; rfl; exact (rfl : _ = _ :: _))
    | with_reducible refine r_doneN ?_
    | with_reducible refine c_reg ?_
    | with_reducible refine c_seq ?_
    | with_reducible refine c_block ?_
    | with_reducible refine x_then ?_)
  refine c_loopN (fun t : Nat => [sl 0 0 64 c, dead, pt 1 0, pt 2 0, .int .i64 (t : Nat)]) (fun t : Nat => [byB 64 b, wB64 (fun _ => 0), wB64 (inR b (4 * t))]) (fun t => t ≤ 16) (fun t => 16 - t) 0 (by omega) ?_ ?_
  · refine weak_to (n := 3) rfl ?_ (by kernel_rfl) rfl
    repeat (first | exact trivial | refine ⟨.inl rfl, ?_⟩ | refine ⟨.inr ⟨rfl, rfl⟩, ?_⟩)
  · intro t ht
    by_cases hlt : t < 16
    repeat (first
      | ((with_reducible apply r_move); rfl; rfl; (exact (rfl : _ = Value.int _ _)))
      | ((with_reducible apply r_assign); rfl; rfl; (exact (rfl : _ = Value.int _ _)))
      | ((with_reducible apply r_bin); rfl; rfl; (exact (rfl : _ = Value.int _ _)); (exact (rfl : _ = Value.int _ _)); (with_reducible exact lss_t (by omega)))
      | with_reducible refine r_doneN ?_
      | with_reducible refine c_reg ?_
      | with_reducible refine c_seq ?_
      | with_reducible refine c_block ?_
      | with_reducible refine c_skip ?_
      | with_reducible refine x_then ?_
      | ((with_reducible apply c_true); rfl))
    refine c_loopN (fun i : Nat => [sl 0 0 64 c, dead, pt 1 0, pt 2 0, .int .i64 (t : Nat), .int .i64 (i : Nat)]) (fun i : Nat => [byB 64 b, wB64 (fun _ => 0), wB64 (inR b (4 * t + i))]) (fun i => i ≤ 4) (fun i => 4 - i) 0 (by omega) ?_ ?_
    · refine weak_to (n := 3) rfl ?_ rfl rfl
      repeat (first | exact trivial | refine ⟨.inl rfl, ?_⟩ | refine ⟨.inr ⟨rfl, rfl⟩, ?_⟩)
    · intro i hi
      by_cases hlt2 : i < 4
      · generalize hw : inR b (4 * t + i) = w
        repeat (first
          | ((with_reducible apply r_idxA (j := t)); rfl; rfl; exact (rfl : _ = Value.pointer (some ⟨_, _, _⟩)); (exact (rfl : _ = Value.int _ _)); (exact (rfl : _ = some (_, 1))); omega; omega; omega)
          | ((with_reducible apply r_idxS (j := 4 * t + i)); rfl; rfl; exact (rfl : _ = Value.slice (some ⟨_, _, _⟩) _ _); (exact (rfl : _ = Value.int _ _)); (exact (rfl : _ = some (_, 1))); omega; omega; omega)
          | ((with_reducible apply r_move); rfl; rfl; (first
          | exact (rfl : _ = Value.int _ _)
          | exact (rfl : _ = Value.slice _ _ _)))
          | ((with_reducible apply r_assign); rfl; rfl; (exact (rfl : _ = Value.int _ _)))
          | ((with_reducible apply r_bin); rfl; rfl; (exact (rfl : _ = Value.int _ _)); (exact (rfl : _ = Value.int _ _)); (first
          | with_reducible exact lss_t (by omega)
          | with_reducible exact bin_add rfl (by omega) (by omega)
          | with_reducible exact bin_mul rfl (by omega) (by omega)
          | with_reducible exact add32 (by first | exact ofI _ _ | rfl) (by first | exact ofI _ _ | rfl)
          | with_reducible exact mul32 (by first | exact ofI _ _ | rfl) (by first | exact ofI _ _ | rfl)))
          | ((with_reducible apply r_conv); rfl; rfl; (exact (rfl : _ = Value.int _ _)); (exact conv32 rfl rfl (by first | exact ofI_set _ | rfl)))
          | ((with_reducible apply r_load); rfl; rfl; exact (rfl : _ = Value.pointer (some ⟨_, _, _⟩)); (exact loadA_row rfl rfl rfl (by omega) (fun _ => rfl)))
          | ((with_reducible apply r_store); rfl; exact (rfl : _ = Value.pointer (some ⟨_, _, _⟩)); (exact (rfl : _ = Value.int _ _)); (exact storeD_row rfl rfl rfl rfl rfl (by omega) rfl rfl); exact (rfl : _ = _ :: _))
          | with_reducible refine r_doneN ?_
          | with_reducible refine c_reg ?_
          | with_reducible refine c_seq ?_
          | with_reducible refine c_block ?_
          | with_reducible refine c_skip ?_
          | with_reducible refine x_then ?_
          | with_reducible refine x_blockN ?_
          | (with_reducible refine r_doneD (by kernel_rfl) ?_)
          | (with_reducible refine c_draw (by kernel_rfl) ?_)
          | ((with_reducible apply c_true); rfl))
        refine x_round ⟨i + 1, by omega, by omega, ?_⟩
        have e : inR b (4 * t + (i + 1)) = updN w t (w t * BitVec.ofInt 32 256 + (b (4 * t + i)).setWidth 32) := by
          rw [show 4 * t + (i + 1) = (4 * t + i) + 1 from rfl, inR, show (4 * t + i) / 4 = t from by omega, hw]
        rw [e]
        refine weak_to (n := 3) rfl ?_ rfl rfl
        repeat (first | exact trivial | refine ⟨.inl rfl, ?_⟩ | refine ⟨.inr ⟨rfl, rfl⟩, ?_⟩)
      · obtain rfl : i = 4 := by omega
        repeat (first
          | ((with_reducible apply r_move); rfl; rfl; (exact (rfl : _ = Value.int _ _)))
          | ((with_reducible apply r_assign); rfl; rfl; (exact (rfl : _ = Value.int _ _)))
          | ((with_reducible apply r_bin); rfl; rfl; (exact (rfl : _ = Value.int _ _)); (exact (rfl : _ = Value.int _ _)); (first
          | with_reducible exact lss_f (by omega)
          | with_reducible exact bin_add rfl (by omega) (by omega)))
          | with_reducible refine r_doneN ?_
          | with_reducible refine c_reg ?_
          | with_reducible refine c_seq ?_
          | with_reducible refine c_exit ?_
          | with_reducible refine x_then ?_
          | with_reducible refine x_thenE ?_
          | with_reducible refine x_blockN ?_
          | with_reducible refine x_leaveE ?_
          | ((with_reducible apply c_false); rfl)
          | ((with_reducible apply x_block); rfl))
        refine x_round ⟨t + 1, by omega, by omega, ?_⟩
        refine weak_to (n := 3) rfl ?_ rfl rfl
        repeat (first | exact trivial | refine ⟨.inl rfl, ?_⟩ | refine ⟨.inr ⟨rfl, rfl⟩, ?_⟩)
    · obtain rfl : t = 16 := by omega
      repeat (first
        | ((with_reducible apply r_move); rfl; rfl; (exact (rfl : _ = Value.int _ _)))
        | ((with_reducible apply r_assign); rfl; rfl; (exact (rfl : _ = Value.int _ _)))
        | ((with_reducible apply r_bin); rfl; rfl; (exact (rfl : _ = Value.int _ _)); (exact (rfl : _ = Value.int _ _)); (with_reducible exact lss_f (by omega)))
        | with_reducible refine r_doneN ?_
        | with_reducible refine c_reg ?_
        | with_reducible refine c_seq ?_
        | with_reducible refine c_block ?_
        | with_reducible refine c_exit ?_
        | with_reducible refine x_then ?_
        | with_reducible refine x_thenE ?_
        | with_reducible refine x_leaveE ?_
        | ((with_reducible apply c_false); rfl)
        | ((with_reducible apply x_block); rfl))
      refine c_loopN (fun k : Nat => [sl 0 0 64 c, dead, pt 1 0, pt 2 0, dead, dead, .int .i64 ((16 + k : Nat) : Int)]) (fun k : Nat => [byB 64 b, wB64 (fun _ => 0), wB64 (schR b k)]) (fun k => k ≤ 48) (fun k => 48 - k) 0 (by omega) ?_ ?_
      · refine weak_to (n := 3) rfl ?_ rfl rfl
        repeat (first | exact trivial | refine ⟨.inl rfl, ?_⟩ | refine ⟨.inr ⟨rfl, rfl⟩, ?_⟩)
      · intro k hk
        by_cases hlt : k < 48
        · generalize hw : schR b k = w
          repeat (first
            | ((with_reducible apply r_idxA (j := 16 + k)); rfl; rfl; exact (rfl : _ = Value.pointer (some ⟨_, _, _⟩)); (exact (rfl : _ = Value.int _ _)); (exact (rfl : _ = some (_, 1))); omega; omega; omega)
            | ((with_reducible apply r_idxA (j := 16 + k - 15)); rfl; rfl; exact (rfl : _ = Value.pointer (some ⟨_, _, _⟩)); (exact (rfl : _ = Value.int _ _)); (exact (rfl : _ = some (_, 1))); omega; omega; omega)
            | ((with_reducible apply r_idxA (j := 16 + k - 2)); rfl; rfl; exact (rfl : _ = Value.pointer (some ⟨_, _, _⟩)); (exact (rfl : _ = Value.int _ _)); (exact (rfl : _ = some (_, 1))); omega; omega; omega)
            | ((with_reducible apply r_idxA (j := 16 + k - 16)); rfl; rfl; exact (rfl : _ = Value.pointer (some ⟨_, _, _⟩)); (exact (rfl : _ = Value.int _ _)); (exact (rfl : _ = some (_, 1))); omega; omega; omega)
            | ((with_reducible apply r_idxA (j := 16 + k - 7)); rfl; rfl; exact (rfl : _ = Value.pointer (some ⟨_, _, _⟩)); (exact (rfl : _ = Value.int _ _)); (exact (rfl : _ = some (_, 1))); omega; omega; omega)
            | ((with_reducible apply r_move); rfl; rfl; (exact (rfl : _ = Value.int _ _)))
            | ((with_reducible apply r_assign); rfl; rfl; (exact (rfl : _ = Value.int _ _)))
            | ((with_reducible apply r_bin); rfl; rfl; (exact (rfl : _ = Value.int _ _)); (exact (rfl : _ = Value.int _ _)); (first
            | with_reducible exact lss_t (by omega)
            | with_reducible exact bin_add rfl (by omega) (by omega)
            | with_reducible exact bin_sub rfl (by omega) (by omega)
            | with_reducible exact add32 (by first | exact ofI _ _ | rfl) (by first | exact ofI _ _ | rfl)
            | with_reducible exact shr32 (by omega)
            | with_reducible exact xor32 (by first | exact ofI _ _ | rfl) (by first | exact ofI _ _ | rfl)))
            | ((with_reducible apply r_load); rfl; rfl; exact (rfl : _ = Value.pointer (some ⟨_, _, _⟩)); (exact loadA_row rfl rfl rfl (by omega) (fun _ => rfl)))
            | ((with_reducible apply r_store); rfl; exact (rfl : _ = Value.pointer (some ⟨_, _, _⟩)); (exact (rfl : _ = Value.int _ _)); (exact storeD_row rfl rfl rfl rfl rfl (by omega) rfl rfl); exact (rfl : _ = _ :: _))
            | ((with_reducible apply r_callP (turn_ok _ 7 (by decide))); rfl; rfl; rfl; rfl; rfl; (exact (rfl : _ = Value.int _ _)))
            | ((with_reducible apply r_callP (turn_ok _ 18 (by decide))); rfl; rfl; rfl; rfl; rfl; (exact (rfl : _ = Value.int _ _)))
            | ((with_reducible apply r_callP (turn_ok _ 17 (by decide))); rfl; rfl; rfl; rfl; rfl; (exact (rfl : _ = Value.int _ _)))
            | ((with_reducible apply r_callP (turn_ok _ 19 (by decide))); rfl; rfl; rfl; rfl; rfl; (exact (rfl : _ = Value.int _ _)))
            | with_reducible refine r_doneN ?_
            | with_reducible refine c_reg ?_
            | with_reducible refine c_seq ?_
            | with_reducible refine c_block ?_
            | with_reducible refine c_skip ?_
            | with_reducible refine x_then ?_
            | with_reducible refine x_blockN ?_
            | (with_reducible refine r_doneD (by kernel_rfl) ?_)
            | (with_reducible refine c_draw (by kernel_rfl) ?_)
            | ((with_reducible apply c_true); rfl))
          refine x_round ⟨k + 1, by omega, by omega, ?_⟩
          have e : schR b (k + 1) = updN w (16 + k) (refW w (16 + k)) := by
            show updN (schR b k) (16 + k) (refW (schR b k) (16 + k)) = _
            rw [hw]
          rw [e]
          refine weak_to (n := 3) rfl ?_ rfl rfl
          repeat (first | exact trivial | refine ⟨.inl rfl, ?_⟩ | refine ⟨.inr ⟨rfl, rfl⟩, ?_⟩)
        · obtain rfl : k = 48 := by omega
          repeat (first
            | ((with_reducible apply r_move); rfl; rfl; (exact (rfl : _ = Value.int _ _)))
            | ((with_reducible apply r_bin); rfl; rfl; (exact (rfl : _ = Value.int _ _)); (exact (rfl : _ = Value.int _ _)); (with_reducible exact lss_f (by omega)))
            | ((with_reducible apply r_load); rfl; rfl; exact (rfl : _ = Value.pointer (some ⟨_, _, _⟩)); (exact (rfl : _ = some (Value.agg _))))
            | ((with_reducible apply r_store); rfl; exact (rfl : _ = Value.pointer (some ⟨_, _, _⟩)); (exact (rfl : _ = Value.agg _)); (rfl); exact (rfl : _ = _ :: _))
            | with_reducible refine r_doneN ?_
            | with_reducible refine c_reg ?_
            | with_reducible refine c_seq ?_
            | with_reducible refine c_exit ?_
            | with_reducible refine c_ret ?_
            | with_reducible refine x_then ?_
            | with_reducible refine x_thenE ?_
            | with_reducible refine x_leaveE ?_
            | ((with_reducible apply c_false); rfl)
            | ((with_reducible apply x_block); rfl))
          refine x_end ?_
          refine end_same (v := .agg (rowE w32 64 (schR b 48)).toArray) rfl rfl rfl ?_ ?_
          · rfl
          · exact argV_pure (pure_row fun _ => rfl) rfl
end Go.Flat
end
section
set_option linter.unusedVariables false
set_option maxRecDepth 20000
namespace Go.Flat
open Go.Proofs
variable {G : Glob}
def refP (k : BitVec 32) (v w : Nat → BitVec 32) (t : Nat) : BitVec 32 := v 7 + (turnF (v 4) 6 ^^^ turnF (v 4) 11 ^^^ turnF (v 4) 25) + ((v 4 &&& v 5) ^^^ (~~~(v 4) &&& v 6)) + k + w t
def refQ (v : Nat → BitVec 32) : BitVec 32 := (turnF (v 0) 2 ^^^ turnF (v 0) 13 ^^^ turnF (v 0) 22) + ((v 0 &&& v 1) ^^^ (v 0 &&& v 2) ^^^ (v 1 &&& v 2))
def refT (kk : Nat → BitVec 32) (v w : Nat → BitVec 32) : Nat → Nat → BitVec 32
  | 0 => v
  | t + 1 => sha3v (refP (kk t) (refT kk v w t) w t) (refQ (refT kk v w t)) (refT kk v w t)
def refB (kk : Nat → BitVec 32) (v : Nat → BitVec 32) (b : Nat → BitVec 8) : Nat → BitVec 32 := addV v (refT kk v (schR b 48) 64) 8
theorem un_xor32 {P : Program} {x : Int} {a : BitVec 32} (hx : BitVec.ofInt 32 x = a) : unD P .xor (.int .u32 x) = some (.int .u32 ((~~~a).toNat : Int)) := by
  subst hx
  unfold unD
  rw [if_pos (show pureV (.int .u32 x) = true from rfl)]
  have : evalPure P (Op.unary .xor (.int .u32 x)) = some (.int .u32 (IntKind.u32.wrap ((BitVec.ofInt 32 4294967295 ^^^ BitVec.ofInt 32 x).toNat : Int))) := rfl
  rw [this, wrap32, ofI]
  rw [show BitVec.ofInt 32 4294967295 = BitVec.allOnes 32 from by decide, BitVec.allOnes_xor]
  rfl
theorem emb_same {H : List Blk} {e : Emb} {id : Nat} {L B : Blk} (hB : H[id]? = some B) (hf : (decide (0 < L.sz) && decide (0 < B.sz) && L.fix == B.fix && (L.fix || L.sz == B.sz) && (!L.pur || B.pur) && !L.wr) = true) (hc : B.cells = L.cells) (hR : cellsR e L = L.cells) : embOneM H e (some (id, 0)) L :=
  emb_ro hB hf (by rw [hc]; omega) (by rw [hc, hR]; simp)
attribute [local irreducible] turnF
set_option maxHeartbeats 4000000 in
set_option maxRecDepth 20000 in
theorem block_ok (kk : Nat → BitVec 32) (hG : G 2 = some (rowE w32 64 kk)) (v : Nat → BitVec 32) (b : Nat → BitVec 8) (c : Nat) (hc : 64 ≤ c) : CallL Tryd.prog G 83 [.agg (rowE w32 8 v).toArray, sl 0 0 64 c] [byB 64 b] (.agg (rowE w32 8 (refB kk v b)).toArray) [byB 64 b] := by
  refine walk (fn := Tryd.f83) (nt := 116) rfl rfl rfl rfl ?_
  refine c_hole 4 (H' := [byB 64 b, hole, hole, hole, hole]) rfl ?_
  repeat (first
    | ((with_reducible apply r_callN (e := [some (0, 0)]) (nid := 0) (words_ok b c)); rfl; rfl; rfl; rfl; rfl; rfl; rfl; refine ⟨⟨⟨rfl, rfl, rfl, Nat.le_refl _, by omega⟩, trivial⟩, ⟨emb_same rfl rfl rfl rfl, trivial⟩, rfl, rfl, rfl⟩; exact (rfl : _ = Value.agg _); exact (rfl : _ = _ :: _))
    | ((with_reducible apply r_move); rfl; rfl; (exact (rfl : _ = Value.slice _ _ _)))
    | ((with_reducible apply r_assign); rfl; rfl; (exact (rfl : _ = Value.int _ _)))
    | ((with_reducible apply r_load); rfl; rfl; exact (rfl : _ = Value.pointer (some ⟨_, _, _⟩)); (exact (rfl : _ = some (Value.agg _))))
    | ((with_reducible apply r_store); rfl; exact (rfl : _ = Value.pointer (some ⟨_, _, _⟩)); (exact (rfl : _ = Value.agg _)); (rfl); exact (rfl : _ = _ :: _))
    | ((with_reducible apply r_box (nid := 1)); rfl; rfl; (exact (rfl : _ = Value.agg _)); rfl; exact (rfl : _ = _ :: _))
    | ((with_reducible apply r_alloc (nid := 2)); rfl; rfl; rfl; exact (rfl : _ = _ :: _))
    | ((with_reducible apply r_alloc (nid := 3)); rfl; rfl; rfl; exact (rfl : _ = _ :: _))
    | ((with_reducible apply r_alloc (nid := 4)); rfl; rfl; rfl; exact (rfl : _ = _ :: _))
    | with_reducible refine r_doneN ?_
    | with_reducible refine c_reg ?_
    | with_reducible refine c_seq ?_
    | with_reducible refine c_block ?_
    | with_reducible refine x_then ?_)
  have hB : refB kk v b = addV v (refT kk v (schR b 48) 64) 8 := rfl
  generalize schR b 48 = W at hB ⊢
  refine c_loopN (fun t : Nat => [dead, dead, pt 1 0, dead, pt 2 0, pt 3 0, pt 4 0, .int .i64 (t : Nat)]) (fun t : Nat => [byB 64 b, vB v, vB (fun _ => 0), wB64 (W), vB (refT kk v (W) t)]) (fun t => t ≤ 64) (fun t => 64 - t) 0 (by omega) ?_ ?_
  · refine weak_to (n := 5) rfl ?_ ?_ rfl
    repeat (first | exact trivial | refine ⟨.inl rfl, ?_⟩ | refine ⟨.inr ⟨rfl, rfl⟩, ?_⟩)
    · rfl
  · intro t ht
    by_cases hlt : t < 64
    · generalize hv : refT kk v (W) t = vt
      iterate 52 (first
        | ((with_reducible apply r_load); rfl; rfl; exact (rfl : _ = Value.pointer (some ⟨_, _, some _⟩)); exact (show _ = some (w32 (kk t)) from loadA_globRow rfl hG (by omega) (fun _ => rfl)))
        | ((with_reducible apply r_un); rfl; rfl; exact (rfl : _ = Value.int _ _); exact un_xor32 (ofI _ _))
        | ((with_reducible apply r_idxA (j := t)); rfl; rfl; exact (rfl : _ = Value.pointer (some ⟨_, _, _⟩)); (exact (rfl : _ = Value.int _ _)); (exact (rfl : _ = some (_, 1))); omega; omega; omega)
        | ((with_reducible apply r_idxA (j := 4)); rfl; rfl; exact (rfl : _ = Value.pointer (some ⟨_, _, _⟩)); (exact (rfl : _ = Value.int _ _)); (exact (rfl : _ = some (_, 1))); omega; omega; omega)
        | ((with_reducible apply r_idxA (j := 5)); rfl; rfl; exact (rfl : _ = Value.pointer (some ⟨_, _, _⟩)); (exact (rfl : _ = Value.int _ _)); (exact (rfl : _ = some (_, 1))); omega; omega; omega)
        | ((with_reducible apply r_idxA (j := 6)); rfl; rfl; exact (rfl : _ = Value.pointer (some ⟨_, _, _⟩)); (exact (rfl : _ = Value.int _ _)); (exact (rfl : _ = some (_, 1))); omega; omega; omega)
        | ((with_reducible apply r_idxA (j := 7)); rfl; rfl; exact (rfl : _ = Value.pointer (some ⟨_, _, _⟩)); (exact (rfl : _ = Value.int _ _)); (exact (rfl : _ = some (_, 1))); omega; omega; omega)
        | ((with_reducible apply r_move); rfl; rfl; (exact (rfl : _ = Value.int _ _)))
        | ((with_reducible apply r_assign); rfl; rfl; (exact (rfl : _ = Value.int _ _)))
        | ((with_reducible apply r_bin); rfl; rfl; (exact (rfl : _ = Value.int _ _)); (exact (rfl : _ = Value.int _ _)); (first
        | with_reducible exact lss_t (by omega)
        | with_reducible exact add32 (by first | exact ofI _ _ | rfl) (by first | exact ofI _ _ | rfl)
        | with_reducible exact and32 (by first | exact ofI _ _ | rfl) (by first | exact ofI _ _ | rfl)
        | with_reducible exact xor32 (by first | exact ofI _ _ | rfl) (by first | exact ofI _ _ | rfl)))
        | ((with_reducible apply r_load); rfl; rfl; exact (rfl : _ = Value.pointer (some ⟨_, _, _⟩)); (exact loadA_row rfl rfl rfl (by omega) (fun _ => rfl)))
        | ((with_reducible apply r_callP (turnC 6 _ (by decide))); rfl; rfl; rfl; rfl; rfl; (exact (rfl : _ = Value.int _ _)))
        | ((with_reducible apply r_callP (turnC 11 _ (by decide))); rfl; rfl; rfl; rfl; rfl; (exact (rfl : _ = Value.int _ _)))
        | ((with_reducible apply r_callP (turnC 25 _ (by decide))); rfl; rfl; rfl; rfl; rfl; (exact (rfl : _ = Value.int _ _)))
        | with_reducible refine r_doneN ?_
        | with_reducible refine c_reg ?_
        | with_reducible refine c_seq ?_
        | with_reducible refine c_block ?_
        | with_reducible refine c_skip ?_
        | with_reducible refine x_then ?_
        | (with_reducible refine r_doneD (by kernel_rfl) ?_)
        | (with_reducible refine c_draw (by kernel_rfl) ?_)
        | ((with_reducible apply c_true); rfl))
      refine c_weak (s' := ⟨Tl [dead, dead, pt 1 0, dead, pt 2 0, pt 3 0, pt 4 0, .int .i64 (t : Nat), w32 (refP (kk t) vt W t)], [byB 64 b, vB v, vB (fun _ => 0), wB64 W, vB vt]⟩) ?_ ?_
      · refine weak_to (n := 5) rfl ?_ rfl rfl
        repeat (first | exact trivial | refine ⟨.inl rfl, ?_⟩ | refine ⟨.inr ⟨rfl, rfl⟩, ?_⟩)
      generalize hp : refP (kk t) vt W t = p
      iterate 34 (first
        | ((with_reducible apply r_idxA (j := 0)); rfl; rfl; exact (rfl : _ = Value.pointer (some ⟨_, _, _⟩)); (exact (rfl : _ = Value.int _ _)); (exact (rfl : _ = some (_, 1))); omega; omega; omega)
        | ((with_reducible apply r_idxA (j := 1)); rfl; rfl; exact (rfl : _ = Value.pointer (some ⟨_, _, _⟩)); (exact (rfl : _ = Value.int _ _)); (exact (rfl : _ = some (_, 1))); omega; omega; omega)
        | ((with_reducible apply r_idxA (j := 2)); rfl; rfl; exact (rfl : _ = Value.pointer (some ⟨_, _, _⟩)); (exact (rfl : _ = Value.int _ _)); (exact (rfl : _ = some (_, 1))); omega; omega; omega)
        | ((with_reducible apply r_assign); rfl; rfl; (exact (rfl : _ = Value.int _ _)))
        | ((with_reducible apply r_bin); rfl; rfl; (exact (rfl : _ = Value.int _ _)); (exact (rfl : _ = Value.int _ _)); (first
        | with_reducible exact add32 (by first | exact ofI _ _ | rfl) (by first | exact ofI _ _ | rfl)
        | with_reducible exact and32 (by first | exact ofI _ _ | rfl) (by first | exact ofI _ _ | rfl)
        | with_reducible exact xor32 (by first | exact ofI _ _ | rfl) (by first | exact ofI _ _ | rfl)))
        | ((with_reducible apply r_load); rfl; rfl; exact (rfl : _ = Value.pointer (some ⟨_, _, _⟩)); (exact loadA_row rfl rfl rfl (by omega) (fun _ => rfl)))
        | ((with_reducible apply r_callP (turnC 2 _ (by decide))); rfl; rfl; rfl; rfl; rfl; (exact (rfl : _ = Value.int _ _)))
        | ((with_reducible apply r_callP (turnC 13 _ (by decide))); rfl; rfl; rfl; rfl; rfl; (exact (rfl : _ = Value.int _ _)))
        | ((with_reducible apply r_callP (turnC 22 _ (by decide))); rfl; rfl; rfl; rfl; rfl; (exact (rfl : _ = Value.int _ _)))
        | with_reducible refine c_seq ?_
        | with_reducible refine x_then ?_
        | (with_reducible refine r_doneD (by kernel_rfl) ?_)
        | (with_reducible refine c_draw (by kernel_rfl) ?_))
      refine c_weak (s' := ⟨Tl [dead, dead, pt 1 0, dead, pt 2 0, pt 3 0, pt 4 0, .int .i64 (t : Nat), w32 p, w32 (refQ vt)], [byB 64 b, vB v, vB (fun _ => 0), wB64 W, vB vt]⟩) ?_ ?_
      · refine weak_to (n := 5) rfl ?_ rfl rfl
        repeat (first | exact trivial | refine ⟨.inl rfl, ?_⟩ | refine ⟨.inr ⟨rfl, rfl⟩, ?_⟩)
      generalize hq : refQ vt = q
      repeat (first
        | ((with_reducible apply r_build); rfl; rfl; rfl; exact (show _ = some (Value.agg (rowE w32 8 (sha3v p q vt)).toArray) by kernel_rfl))
        | ((with_reducible apply r_store); rfl; exact (rfl : _ = Value.pointer (some ⟨4, _, _⟩)); exact (rfl : _ = Value.agg _); exact (show _ = some (4, vB (sha3v p q vt)) by kernel_rfl); exact (show _ = [byB 64 b, vB v, vB (fun _ => 0), wB64 W, vB (sha3v p q vt)] by kernel_rfl))
        | ((with_reducible apply r_idxA (j := 0)); rfl; rfl; exact (rfl : _ = Value.pointer (some ⟨_, _, _⟩)); (exact (rfl : _ = Value.int _ _)); (exact (rfl : _ = some (_, 1))); omega; omega; omega)
        | ((with_reducible apply r_idxA (j := 1)); rfl; rfl; exact (rfl : _ = Value.pointer (some ⟨_, _, _⟩)); (exact (rfl : _ = Value.int _ _)); (exact (rfl : _ = some (_, 1))); omega; omega; omega)
        | ((with_reducible apply r_idxA (j := 2)); rfl; rfl; exact (rfl : _ = Value.pointer (some ⟨_, _, _⟩)); (exact (rfl : _ = Value.int _ _)); (exact (rfl : _ = some (_, 1))); omega; omega; omega)
        | ((with_reducible apply r_idxA (j := 3)); rfl; rfl; exact (rfl : _ = Value.pointer (some ⟨_, _, _⟩)); (exact (rfl : _ = Value.int _ _)); (exact (rfl : _ = some (_, 1))); omega; omega; omega)
        | ((with_reducible apply r_idxA (j := 4)); rfl; rfl; exact (rfl : _ = Value.pointer (some ⟨_, _, _⟩)); (exact (rfl : _ = Value.int _ _)); (exact (rfl : _ = some (_, 1))); omega; omega; omega)
        | ((with_reducible apply r_idxA (j := 5)); rfl; rfl; exact (rfl : _ = Value.pointer (some ⟨_, _, _⟩)); (exact (rfl : _ = Value.int _ _)); (exact (rfl : _ = some (_, 1))); omega; omega; omega)
        | ((with_reducible apply r_idxA (j := 6)); rfl; rfl; exact (rfl : _ = Value.pointer (some ⟨_, _, _⟩)); (exact (rfl : _ = Value.int _ _)); (exact (rfl : _ = some (_, 1))); omega; omega; omega)
        | ((with_reducible apply r_move); rfl; rfl; (exact (rfl : _ = Value.int _ _)))
        | ((with_reducible apply r_assign); rfl; rfl; (exact (rfl : _ = Value.int _ _)))
        | ((with_reducible apply r_bin); rfl; rfl; (exact (rfl : _ = Value.int _ _)); (exact (rfl : _ = Value.int _ _)); (first
        | with_reducible exact bin_add rfl (by omega) (by omega)
        | with_reducible exact add32 (by first | exact ofI _ _ | rfl) (by first | exact ofI _ _ | rfl)))
        | ((with_reducible apply r_load); rfl; rfl; exact (rfl : _ = Value.pointer (some ⟨_, _, _⟩)); (exact loadA_row rfl rfl rfl (by omega) (fun _ => rfl)))
        | with_reducible refine r_doneN ?_
        | with_reducible refine c_reg ?_
        | with_reducible refine x_then ?_
        | with_reducible refine x_blockN ?_)
      have e : refT kk v W (t + 1) = sha3v p q vt := by
        show sha3v (refP (kk t) (refT kk v W t) W t) (refQ (refT kk v W t)) (refT kk v W t) = _
        rw [hv, hp, hq]
      refine x_round ⟨t + 1, by omega, by omega, ?_⟩
      rw [e]
      refine weak_to (n := 5) rfl ?_ ?_ rfl
      repeat (first | exact trivial | refine ⟨.inl rfl, ?_⟩ | refine ⟨.inr ⟨rfl, rfl⟩, ?_⟩)
      · rfl
    · obtain rfl : t = 64 := by omega
      generalize hv : refT kk v (W) 64 = vt
      repeat (first
        | ((with_reducible apply r_move); rfl; rfl; (exact (rfl : _ = Value.int _ _)))
        | ((with_reducible apply r_assign); rfl; rfl; (exact (rfl : _ = Value.int _ _)))
        | ((with_reducible apply r_bin); rfl; rfl; (exact (rfl : _ = Value.int _ _)); (exact (rfl : _ = Value.int _ _)); (with_reducible exact lss_f (by omega)))
        | with_reducible refine r_doneN ?_
        | with_reducible refine c_reg ?_
        | with_reducible refine c_seq ?_
        | with_reducible refine c_block ?_
        | with_reducible refine c_exit ?_
        | with_reducible refine x_then ?_
        | with_reducible refine x_thenE ?_
        | with_reducible refine x_leaveE ?_
        | ((with_reducible apply c_false); rfl)
        | ((with_reducible apply x_block); rfl))
      refine c_loopN (fun x : Nat => [dead, dead, pt 1 0, dead, pt 2 0, pt 3 0, pt 4 0, dead, dead, dead, .int .i64 (x : Nat)]) (fun x : Nat => [byB 64 b, vB (addV v vt x), vB (fun _ => 0), wB64 (W), vB vt]) (fun x => x ≤ 8) (fun x => 8 - x) 0 (by omega) ?_ ?_
      · refine weak_to (n := 5) rfl ?_ rfl rfl
        repeat (first | exact trivial | refine ⟨.inl rfl, ?_⟩ | refine ⟨.inr ⟨rfl, rfl⟩, ?_⟩)
      · intro x hx
        by_cases hlt : x < 8
        repeat (first
          | ((with_reducible apply r_idxA (j := x)); rfl; rfl; exact (rfl : _ = Value.pointer (some ⟨_, _, _⟩)); (exact (rfl : _ = Value.int _ _)); (exact (rfl : _ = some (_, 1))); omega; omega; omega)
          | ((with_reducible apply r_move); rfl; rfl; (exact (rfl : _ = Value.int _ _)))
          | ((with_reducible apply r_assign); rfl; rfl; (exact (rfl : _ = Value.int _ _)))
          | ((with_reducible apply r_bin); rfl; rfl; (exact (rfl : _ = Value.int _ _)); (exact (rfl : _ = Value.int _ _)); (first
          | with_reducible exact lss_t (by omega)
          | with_reducible exact bin_add rfl (by omega) (by omega)
          | with_reducible exact add32 (by first | exact ofI _ _ | rfl) (by first | exact ofI _ _ | rfl)))
          | ((with_reducible apply r_load); rfl; rfl; exact (rfl : _ = Value.pointer (some ⟨_, _, _⟩)); (exact loadA_row rfl rfl rfl (by omega) (fun _ => rfl)))
          | ((with_reducible apply r_store); rfl; exact (rfl : _ = Value.pointer (some ⟨_, _, _⟩)); (exact (rfl : _ = Value.int _ _)); (exact storeD_row rfl rfl rfl rfl rfl (by omega) rfl rfl); exact (rfl : _ = _ :: _))
          | with_reducible refine r_doneN ?_
          | with_reducible refine c_reg ?_
          | with_reducible refine c_seq ?_
          | with_reducible refine c_block ?_
          | with_reducible refine c_skip ?_
          | with_reducible refine x_then ?_
          | with_reducible refine x_blockN ?_
          | (with_reducible refine r_doneD (by kernel_rfl) ?_)
          | (with_reducible refine c_draw (by kernel_rfl) ?_)
          | ((with_reducible apply c_true); rfl))
        refine x_round ⟨x + 1, by omega, by omega, ?_⟩
        refine weak_to (n := 5) rfl ?_ rfl rfl
        repeat (first | exact trivial | refine ⟨.inl rfl, ?_⟩ | refine ⟨.inr ⟨rfl, rfl⟩, ?_⟩)
        · obtain rfl : x = 8 := by omega
          repeat (first
            | ((with_reducible apply r_move); rfl; rfl; (exact (rfl : _ = Value.int _ _)))
            | ((with_reducible apply r_bin); rfl; rfl; (exact (rfl : _ = Value.int _ _)); (exact (rfl : _ = Value.int _ _)); (with_reducible exact lss_f (by omega)))
            | ((with_reducible apply r_load); rfl; rfl; exact (rfl : _ = Value.pointer (some ⟨_, _, _⟩)); (exact (rfl : _ = some (Value.agg _))))
            | ((with_reducible apply r_store); rfl; exact (rfl : _ = Value.pointer (some ⟨_, _, _⟩)); (exact (rfl : _ = Value.agg _)); (rfl); exact (rfl : _ = _ :: _))
            | with_reducible refine r_doneN ?_
            | with_reducible refine c_reg ?_
            | with_reducible refine c_seq ?_
            | with_reducible refine c_exit ?_
            | with_reducible refine c_ret ?_
            | with_reducible refine x_then ?_
            | with_reducible refine x_thenE ?_
            | with_reducible refine x_leaveE ?_
            | ((with_reducible apply c_false); rfl)
            | ((with_reducible apply x_block); rfl))
          refine x_end ?_
          rw [hv] at hB
          rw [hB]
          refine end_same (v := .agg (rowE w32 8 (addV v vt 8)).toArray) rfl rfl rfl ?_ ?_
          · rfl
          · exact argV_pure (pure_row fun _ => rfl) rfl
end Go.Flat
end
section
set_option linter.unusedVariables false
set_option maxRecDepth 20000
namespace Go.Flat
open Go.Proofs
variable {G : Glob}
theorem appN_row {P : Program} {H : List Blk} {t : TypeId} {s : ByteArray} {nid by_ : Nat} {zc : List Value} (ht : sliceTyA P t = some (1, zc, by_)) (hz : (zc.length == 1 && zc.all scalC) = true) (hby : 0 < by_) (hm : s.size * by_ ≤ 140737488355328) (hf : freeA H nid = true) :
    appN P H t nilS (.string s) nid = some (slv nid 0 s.size s.size, rowB (bl s)) := by
  rw [Bool.and_eq_true, beq_iff_eq] at hz
  unfold appN
  rw [ht]
  have hs : srcA H 1 (.string s) = some (s.size, bytesV s) := rfl
  simp only [hs, Option.bind_some]
  rw [if_pos ⟨trivial, trivial, hz.1, by rw [hz.2]; exact bytesV_pure s, by decide, hby, hm, hf⟩, hz.2, bytesV_bl]
  rfl
theorem appD_row {P : Program} {H : List Blk} {t : TypeId} {q : Value} {b c n k n' by_ : Nat} {zc : List Value} {ls : Bs} {ms : List Value} {ms' : Bs} (ht : sliceTyA P t = some (1, zc, by_)) (hz : zc.length = 1) (hs : srcA H 1 q = some (k, ms)) (hms : ms = ms'.map w8) (hb : H[b]? = some (rowB ls)) (hn : ls.length = n) (hk : n + k = n') (hby : 0 < by_) (hm : n' * by_ ≤ 140737488355328) :
    appD P H t (slv b 0 n c) q = some (slv b 0 n' n', b, rowB (ls ++ ms')) := by
  subst hms
  have hc : (rowB ls).cells.length = n := by show (ls.map w8).length = _; simp [hn]
  rw [appD_pure (n' := n') (p := (k, ms'.map w8)) ht hs hb rfl rfl hz (mapW_pure ms') (by rw [hc]; omega) hby hk hm]
  have : List.take (n * 1) (List.drop 0 (rowB ls).cells) ++ ms'.map w8 = (ls ++ ms').map w8 := by
    rw [List.drop_zero, List.take_of_length_le (by rw [hc]; omega), List.map_append]; rfl
  simp only [this]
  rfl
set_option maxHeartbeats 8000000 in
theorem msg_ok (s : ByteArray) (hs : s.size ≤ 70368744177664) :
    CallL Tryd.prog G 82 [.string s] [] (slv 0 0 (bl s ++ padM (bl s) 8).length (bl s ++ padM (bl s) 8).length) [rowB (bl s ++ padM (bl s) 8)] := by
  refine walk (fn := Tryd.f82) (nt := 36) rfl rfl rfl rfl ?_
  have hsl : (bl s).length = s.size := bl_len s
  have htl : (tl (bl s)).length = s.size % 64 := by rw [tl_len, hsl]; omega
  refine c_hole 2 (H' := [hole, hole]) rfl ?_
  repeat (first
    | ((with_reducible apply r_appN (nid := 0)); rfl; rfl; rfl; exact .inr rfl; exact (rfl : _ = nilS); exact (rfl : _ = Value.string _); exact appN_row (rfl : _ = some (1, _, 1)) rfl (by decide) (by omega) rfl; exact (show _ = [rowB (bl s), hole] by kernel_rfl))
    | ((with_reducible apply r_lit (nid := 1)); rfl; rfl; rfl; exact (rfl : _ = some (Value.slice _ _ _, _)); exact (rfl : _ = _ :: _))
    | ((with_reducible apply r_append); rfl; rfl; rfl; exact .inl ⟨_, rfl⟩; exact (rfl : _ = Value.slice (some ⟨_, _, _⟩) _ _); exact (rfl : _ = Value.slice (some ⟨_, _, _⟩) _ _); exact appD_row (n := s.size) (k := 1) (n' := s.size + 1) (ls := bl s) (ms' := [128]) (rfl : _ = some (1, _, 1)) rfl (rfl : _ = some (1, _)) rfl rfl hsl rfl (by decide) (by omega); rfl; exact (rfl : _ = _ :: _))
    | ((with_reducible apply r_move); rfl; rfl; (first
    | exact (rfl : _ = Value.slice _ _ _)
    | exact (rfl : _ = Value.string _)))
    | ((with_reducible apply r_assign); rfl; rfl; (exact (rfl : _ = Value.slice _ _ _)))
    | with_reducible refine r_doneN ?_
    | with_reducible refine c_reg ?_
    | with_reducible refine c_seq ?_
    | with_reducible refine c_block ?_
    | with_reducible refine x_then ?_)
  refine c_loopN (fun j : Nat => [.string s, dead, dead, slv 0 0 (s.size + 1 + j) (s.size + 1 + j)]) (fun j : Nat => [rowB (bl s ++ (128 :: List.replicate j 0))]) (fun j => j ≤ (119 - s.size % 64) % 64) (fun j => (119 - s.size % 64) % 64 - j) 0 (by omega) ?_ ?_
  · refine weak_to (n := 1) rfl ?_ rfl rfl
    repeat (first | exact trivial | refine ⟨.inl rfl, ?_⟩ | refine ⟨.inr ⟨rfl, rfl⟩, ?_⟩)
  · intro j hj
    have hjl : (bl s ++ (128 :: List.replicate j 0)).length = s.size + 1 + j := by simp [hsl]; omega
    by_cases hlt : j < (119 - s.size % 64) % 64
    · refine c_hole 1 (H' := [rowB (bl s ++ (128 :: List.replicate j 0)), hole]) rfl ?_
      have e : (bl s ++ (128 :: List.replicate j 0)) ++ [0] = bl s ++ (128 :: List.replicate (j + 1) 0) := by
        rw [List.replicate_succ']; simp
      repeat (first
        | ((with_reducible apply r_lit (nid := 1)); rfl; rfl; rfl; exact (rfl : _ = some (Value.slice _ _ _, _)); exact (rfl : _ = _ :: _))
        | ((with_reducible apply r_append); rfl; rfl; rfl; exact .inl ⟨_, rfl⟩; exact (rfl : _ = Value.slice (some ⟨_, _, _⟩) _ _); exact (rfl : _ = Value.slice (some ⟨_, _, _⟩) _ _); exact appD_row (n := s.size + 1 + j) (k := 1) (n' := s.size + 1 + j + 1) (ls := bl s ++ (128 :: List.replicate j 0)) (ms' := [0]) (rfl : _ = some (1, _, 1)) rfl (rfl : _ = some (1, _)) rfl rfl hjl rfl (by decide) (by omega); rfl; exact (rfl : _ = _ :: _))
        | ((with_reducible apply r_move); rfl; rfl; (exact (rfl : _ = Value.slice _ _ _)))
        | ((with_reducible apply r_assign); rfl; rfl; (exact (rfl : _ = Value.slice _ _ _)))
        | ((with_reducible apply r_bin); rfl; rfl; (exact (rfl : _ = Value.int _ _)); (exact (rfl : _ = Value.int _ _)); (first
        | with_reducible exact neq_t (by omega)
        | with_reducible exact rem_p (by omega) (by omega)))
        | ((with_reducible apply r_len); rfl; rfl; (exact (rfl : _ = Value.slice _ _ _)); (exact (rfl : _ = some (Value.int _ _))))
        | with_reducible refine r_doneN ?_
        | with_reducible refine c_reg ?_
        | with_reducible refine c_seq ?_
        | with_reducible refine c_block ?_
        | with_reducible refine c_skip ?_
        | with_reducible refine x_then ?_
        | with_reducible refine x_blockN ?_
        | ((with_reducible apply c_true); rfl))
      refine x_round ⟨j + 1, by omega, by omega, ?_⟩
      rw [← e]
      refine weak_to (n := 1) rfl ?_ rfl rfl
      repeat (first | exact trivial | refine ⟨.inl rfl, ?_⟩ | refine ⟨.inr ⟨rfl, rfl⟩, ?_⟩)
    · obtain rfl : j = (119 - s.size % 64) % 64 := by omega
      have hp : ∀ i, (bl s ++ padM (bl s) i).length = s.size + 1 + (119 - s.size % 64) % 64 + i := by
        intro i
        rw [List.length_append, hsl]
        unfold padM
        rw [padN_len, htl]; omega
      have e0 : bl s ++ (128 :: List.replicate ((119 - s.size % 64) % 64) 0) = bl s ++ padM (bl s) 0 := by
        unfold padM padN pad0
        rw [htl]
      rw [e0]
      have hcv : BitVec.ofInt 64 (s.size : Int) = BitVec.ofNat 64 s.size := BitVec.ofInt_natCast _ _
      have hlw : lenW (bl s) = BitVec.ofNat 64 s.size * BitVec.ofInt 64 8 := by unfold lenW; rw [hsl]
      repeat (first
        | ((with_reducible apply r_conv); rfl; rfl; exact (rfl : _ = Value.int _ _); exact conv64 rfl rfl hcv)
        | ((with_reducible apply r_move); rfl; rfl; (first
        | exact (rfl : _ = Value.slice _ _ _)
        | exact (rfl : _ = Value.string _)))
        | ((with_reducible apply r_assign); rfl; rfl; (exact (rfl : _ = Value.int _ _)))
        | ((with_reducible apply r_bin); rfl; rfl; (exact (rfl : _ = Value.int _ _)); (exact (rfl : _ = Value.int _ _)); (first
        | with_reducible exact neq_f (by omega)
        | with_reducible exact mul64 (by first | exact ofI _ _ | rfl) (by first | exact ofI _ _ | rfl)
        | with_reducible exact rem_p (by omega) (by omega)))
        | ((with_reducible apply r_len); rfl; rfl; (first
        | exact (rfl : _ = Value.slice _ _ _)
        | exact (rfl : _ = Value.string _)); (exact (rfl : _ = some (Value.int _ _))))
        | with_reducible refine r_doneN ?_
        | with_reducible refine c_reg ?_
        | with_reducible refine c_seq ?_
        | with_reducible refine c_block ?_
        | with_reducible refine c_exit ?_
        | with_reducible refine x_then ?_
        | with_reducible refine x_thenE ?_
        | with_reducible refine x_leaveE ?_
        | ((with_reducible apply c_false); rfl)
        | ((with_reducible apply x_block); rfl))
      refine c_loopN (fun k : Nat => [.string s, dead, dead, slv 0 0 (bl s ++ padM (bl s) k).length (bl s ++ padM (bl s) k).length, w64 (lenW (bl s)), .int .i64 (7 - (k : Int))]) (fun k : Nat => [rowB (bl s ++ padM (bl s) k)]) (fun k => k ≤ 8) (fun k => 8 - k) 0 (by omega) ?_ ?_
      · rw [hp 0, hlw]
        refine weak_to (n := 1) rfl ?_ rfl rfl
        repeat (first | exact trivial | refine ⟨.inl rfl, ?_⟩ | refine ⟨.inr ⟨rfl, rfl⟩, ?_⟩)
      · intro k hk
        by_cases hlt2 : k < 8
        · have hpk := hp k
          have hpk1 := hp (k + 1)
          refine c_hole 1 (H' := [rowB (bl s ++ padM (bl s) k), hole]) rfl ?_
          have e : (bl s ++ padM (bl s) k) ++ [bits8 (lenW (bl s)) k] = bl s ++ padM (bl s) (k + 1) := by
            rw [List.append_assoc]; rfl
          have hsh : (8 * (7 - (k : Int))).toNat = (56 - 8 * (k : Int)).toNat := by omega
          generalize hbk : bl s ++ padM (bl s) k = bk at hpk e ⊢
          repeat (first
            | ((with_reducible apply r_lit (nid := 1)); rfl; rfl; rfl; exact (rfl : _ = some (Value.slice _ _ _, _)); exact (rfl : _ = _ :: _))
            | ((with_reducible apply r_append); rfl; rfl; rfl; exact .inl ⟨_, rfl⟩; exact (rfl : _ = Value.slice (some ⟨_, _, _⟩) _ _); exact (rfl : _ = Value.slice (some ⟨_, _, _⟩) _ _); exact appD_row (n := bk.length) (k := 1) (n' := bk.length + 1) (ls := bk) (ms' := [bits8 (lenW (bl s)) k]) (rfl : _ = some (1, _, 1)) rfl (rfl : _ = some (1, _)) (by unfold bits8; rw [← hsh]; rfl) rfl rfl rfl (by decide) (by omega); rfl; exact (rfl : _ = _ :: _))
            | ((with_reducible apply r_move); rfl; rfl; (first
            | exact (rfl : _ = Value.int _ _)
            | exact (rfl : _ = Value.slice _ _ _)))
            | ((with_reducible apply r_assign); rfl; rfl; (first
            | exact (rfl : _ = Value.int _ _)
            | exact (rfl : _ = Value.slice _ _ _)))
            | ((with_reducible apply r_bin); rfl; rfl; (exact (rfl : _ = Value.int _ _)); (exact (rfl : _ = Value.int _ _)); (first
            | with_reducible exact geq_t (by omega)
            | with_reducible exact bin_sub rfl (by omega) (by omega)
            | with_reducible exact bin_mul rfl (by omega) (by omega)
            | with_reducible exact shr64 (by omega)))
            | ((with_reducible apply r_conv); rfl; rfl; (exact (rfl : _ = Value.int _ _)); (exact conv8 rfl rfl (by first | exact ofI_set _ | rfl)))
            | with_reducible refine r_doneN ?_
            | with_reducible refine c_reg ?_
            | with_reducible refine c_seq ?_
            | with_reducible refine c_block ?_
            | with_reducible refine c_skip ?_
            | with_reducible refine x_then ?_
            | with_reducible refine x_blockN ?_
            | ((with_reducible apply c_true); rfl))
          refine x_round ⟨k + 1, by omega, by omega, ?_⟩
          rw [← e, show (bk ++ [bits8 (lenW (bl s)) k]).length = bk.length + 1 from by simp]
          refine weak_to (n := 1) rfl ⟨.inr ⟨rfl, rfl⟩, .inl rfl, .inl rfl, .inr ⟨rfl, rfl⟩, .inr ⟨rfl, rfl⟩, .inr ⟨?_, rfl⟩, trivial⟩ rfl rfl
          show Value.int .i64 _ = Value.int .i64 _
          congr 1
          omega
        · obtain rfl : k = 8 := by omega
          generalize bl s ++ padM (bl s) 8 = bk
          repeat (first
            | ((with_reducible apply r_move); rfl; rfl; (first
            | exact (rfl : _ = Value.int _ _)
            | exact (rfl : _ = Value.slice _ _ _)))
            | ((with_reducible apply r_assign); rfl; rfl; (exact (rfl : _ = Value.slice _ _ _)))
            | ((with_reducible apply r_bin); rfl; rfl; (exact (rfl : _ = Value.int _ _)); (exact (rfl : _ = Value.int _ _)); (with_reducible exact geq_f (by omega)))
            | with_reducible refine r_doneN ?_
            | with_reducible refine c_reg ?_
            | with_reducible refine c_seq ?_
            | with_reducible refine c_exit ?_
            | with_reducible refine c_ret ?_
            | with_reducible refine x_then ?_
            | with_reducible refine x_thenE ?_
            | with_reducible refine x_leaveE ?_
            | ((with_reducible apply c_false); rfl)
            | ((with_reducible apply x_block); rfl))
          refine x_end ?_
          refine end_same (v := slv 0 0 bk.length bk.length) rfl rfl rfl rfl ?_
          exact ⟨rfl, Nat.zero_add _ ▸ rfl, rfl, Nat.le_refl _, Nat.le_refl _⟩
end Go.Flat
end
section
set_option linter.unusedVariables false
set_option maxRecDepth 20000
namespace Go.Flat
open Go.Proofs
variable {G : Glob}
theorem slice_both {P : Program} {H : List Blk} {t : TypeId} {b o n c : Nat} {k k' : IntKind} {l h sz j m c' : Nat} {e : TypeId} {i : TypeInfo} {x y : Int} (hu : P.underlying t = some (.slice e)) (hi : P.info? e = some i) (hz : i.size = sz) (hx : x = (l : Int)) (hy : y = (h : Int)) (hl : l ≤ h) (hh : h ≤ c) (ho : slcOK H b i.size = true) (hj : o + l * sz = j) (hm : h - l = m) (hc' : c - l = c') :
    sliceD P H t (slv b o n c) (some (.int k x)) (some (.int k' y)) = some (slv b j m c') := by
  subst hx; subst hy; subst hz; subst hm; subst hc'
  unfold sliceD
  rw [hu]
  simp only [boundsA, intA, Option.bind_some]
  rw [if_pos ⟨by omega, by omega⟩]
  simp [hi, ho, hj, hl]
def absR (kk v : Nat → BitVec 32) (l : Bs) : Nat → Nat → BitVec 32
  | 0 => v
  | j + 1 => refB kk (absR kk v l j) (blk64 l j)
def refS (kk : Nat → BitVec 32) (M : Bs) : Nat → BitVec 8 := shaDs (absR kk shaI (M ++ padM M 8) ((M ++ padM M 8).length / 64)) 32
set_option maxHeartbeats 8000000 in
theorem refSum_ok (kk : Nat → BitVec 32) (hG : G 2 = some (rowE w32 64 kk)) (s : ByteArray) (hs : s.size ≤ 70368744177664) :
    CallL Tryd.prog G 60 [.string s] [] (dgV (refS kk (bl s))) [] := by
  refine walk (fn := Tryd.f60) (nt := 41) rfl rfl rfl rfl ?_
  have hM := msg_ok (G := G) s hs
  have hL : (bl s ++ padM (bl s) 8).length ≤ 140737488355328 ∧ (bl s ++ padM (bl s) 8).length % 64 = 0 := by
    rw [List.length_append, bl_len]
    unfold padM
    rw [padN_len, tl_len, bl_len]
    omega
  have hR : refS kk (bl s) = shaDs (absR kk shaI (bl s ++ padM (bl s) 8) ((bl s ++ padM (bl s) 8).length / 64)) 32 := rfl
  generalize bl s ++ padM (bl s) 8 = m at hM hL hR
  obtain ⟨hL1, hL2⟩ := hL
  refine c_hole 4 (H' := [hole, hole, hole, hole]) rfl ?_
  repeat (first
    | ((with_reducible apply r_build); rfl; rfl; rfl; exact (show _ = some (Value.agg (rowE w32 8 shaI).toArray) by kernel_rfl))
    | ((with_reducible apply r_store); rfl; exact (rfl : _ = Value.pointer (some ⟨1, _, _⟩)); exact (rfl : _ = Value.agg _); exact (show _ = some (1, vB shaI) by kernel_rfl); exact (show _ = [dgB (fun _ => 0), vB shaI, hole, hole] by kernel_rfl))
    | ((with_reducible apply r_callN (e := []) (nid := 2) hM); rfl; rfl; rfl; rfl; rfl; rfl; rfl; refine ⟨⟨rfl, trivial⟩, trivial, rfl, rfl, rfl⟩; exact (show _ = slv 2 0 m.length m.length by kernel_rfl); exact (show _ = [dgB (fun _ => 0), vB shaI, rowB m, hole] by kernel_rfl))
    | ((with_reducible apply r_move); rfl; rfl; (exact (rfl : _ = Value.string _)))
    | ((with_reducible apply r_assign); rfl; rfl; (first
    | exact (rfl : _ = Value.int _ _)
    | exact (rfl : _ = Value.slice _ _ _)))
    | ((with_reducible apply r_alloc (nid := 0)); rfl; rfl; rfl; exact (rfl : _ = _ :: _))
    | ((with_reducible apply r_alloc (nid := 1)); rfl; rfl; rfl; exact (rfl : _ = _ :: _))
    | with_reducible refine r_doneN ?_
    | with_reducible refine c_reg ?_
    | with_reducible refine c_seq ?_
    | with_reducible refine c_block ?_
    | with_reducible refine x_then ?_)
  refine c_loopN (fun j : Nat => [dead, dead, pt 0 0, pt 1 0, slv 2 0 m.length m.length, .int .i64 ((64 * j : Nat) : Int)]) (fun j : Nat => [dgB (fun _ => 0), vB (absR kk shaI m j), rowB m]) (fun j => 64 * j ≤ m.length) (fun j => m.length - 64 * j) 0 (by omega) ?_ ?_
  · refine weak_to (n := 3) rfl ?_ rfl rfl
    repeat (first | exact trivial | refine ⟨.inl rfl, ?_⟩ | refine ⟨.inr ⟨rfl, rfl⟩, ?_⟩)
  · intro j hj
    by_cases hlt : 64 * j < m.length
    · have ht := take64 (l := m) (j := j) (by omega)
      have hB := block_ok (G := G) kk hG (absR kk shaI m j) (blk64 m j) (m.length - 64 * j) (by omega)
      have hst : refB kk (absR kk shaI m j) (blk64 m j) = absR kk shaI m (j + 1) := rfl
      rw [hst] at hB
      generalize hst2 : absR kk shaI m (j + 1) = v2 at hB hst
      generalize hv : absR kk shaI m j = v1 at hB
      repeat (first
        | ((with_reducible apply r_slice); rfl; rfl; exact (rfl : _ = Value.slice (some ⟨_, _, _⟩) _ _); rfl; rfl; exact slice_both (l := 64 * j) (h := 64 * j + 64) (sz := 1) (j := 64 * j) (m := 64) (c' := m.length - 64 * j) rfl rfl rfl rfl (by omega) (by omega) (by omega) rfl (by omega) (by omega) rfl)
        | ((with_reducible apply r_load); rfl; rfl; exact (rfl : _ = Value.pointer (some ⟨1, _, _⟩)); exact (show _ = some (Value.agg (rowE w32 8 v1).toArray) by kernel_rfl))
        | ((with_reducible apply r_callN (e := [some (2, 64 * j)]) (nid := 0) hB); rfl; rfl; rfl; rfl; rfl; rfl; rfl; refine ⟨⟨rfl, ⟨rfl, rfl, rfl, Nat.le_refl _, by omega⟩, trivial⟩, ⟨emb_ro rfl rfl (by show 64 * j + (rowE w8 64 _).length ≤ (m.map w8).length; rw [rowE_len]; simp; omega) ht, trivial⟩, rfl, rfl, rfl⟩; exact (rfl : _ = Value.agg _); exact (rfl : _ = _ :: _))
        | ((with_reducible apply r_store); rfl; exact (rfl : _ = Value.pointer (some ⟨1, _, _⟩)); exact (rfl : _ = Value.agg _); exact (show _ = some (1, vB v2) by kernel_rfl); exact (show _ = [dgB (fun _ => 0), vB v2, rowB m] by kernel_rfl))
        | ((with_reducible apply r_move); rfl; rfl; (first
        | exact (rfl : _ = Value.int _ _)
        | exact (rfl : _ = Value.slice _ _ _)))
        | ((with_reducible apply r_assign); rfl; rfl; (exact (rfl : _ = Value.int _ _)))
        | ((with_reducible apply r_bin); rfl; rfl; (exact (rfl : _ = Value.int _ _)); (exact (rfl : _ = Value.int _ _)); (first
        | with_reducible exact lss_t (by omega)
        | with_reducible exact bin_add rfl (by omega) (by omega)))
        | ((with_reducible apply r_len); rfl; rfl; (exact (rfl : _ = Value.slice _ _ _)); (exact (rfl : _ = some (Value.int _ _))))
        | with_reducible refine r_doneN ?_
        | with_reducible refine c_reg ?_
        | with_reducible refine c_seq ?_
        | with_reducible refine c_block ?_
        | with_reducible refine c_skip ?_
        | with_reducible refine x_then ?_
        | with_reducible refine x_blockN ?_
        | (with_reducible refine r_doneD (by kernel_rfl) ?_)
        | (with_reducible refine c_draw (by kernel_rfl) ?_)
        | ((with_reducible apply c_true); rfl))
      refine x_round ⟨j + 1, by omega, by omega, ?_⟩
      rw [← hst2]
      refine weak_to (n := 3) rfl ⟨.inl rfl, .inl rfl, .inr ⟨rfl, rfl⟩, .inr ⟨rfl, rfl⟩, .inr ⟨rfl, rfl⟩, .inr ⟨?_, rfl⟩, trivial⟩ rfl rfl
      show Value.int .i64 _ = Value.int .i64 _
      congr 1
    · have hjn : j = m.length / 64 := by omega
      subst hjn
      rw [hR]
      generalize absR kk shaI m (m.length / 64) = V
      repeat (first
        | ((with_reducible apply r_move); rfl; rfl; (first
        | exact (rfl : _ = Value.int _ _)
        | exact (rfl : _ = Value.slice _ _ _)))
        | ((with_reducible apply r_assign); rfl; rfl; (exact (rfl : _ = Value.int _ _)))
        | ((with_reducible apply r_bin); rfl; rfl; (exact (rfl : _ = Value.int _ _)); (exact (rfl : _ = Value.int _ _)); (with_reducible exact lss_f (by omega)))
        | ((with_reducible apply r_len); rfl; rfl; (exact (rfl : _ = Value.slice _ _ _)); (exact (rfl : _ = some (Value.int _ _))))
        | ((with_reducible apply r_alloc (nid := 3)); rfl; rfl; rfl; exact (rfl : _ = _ :: _))
        | with_reducible refine r_doneN ?_
        | with_reducible refine c_reg ?_
        | with_reducible refine c_seq ?_
        | with_reducible refine c_block ?_
        | with_reducible refine c_exit ?_
        | with_reducible refine x_then ?_
        | with_reducible refine x_thenE ?_
        | with_reducible refine x_leaveE ?_
        | ((with_reducible apply c_false); rfl)
        | ((with_reducible apply x_block); rfl))
      refine c_loopN (fun x : Nat => [dead, dead, pt 0 0, pt 1 0, dead, dead, pt 3 0, .int .i64 (x : Nat)]) (fun x : Nat => [dgB (fun _ => 0), vB V, rowB m, dgB (shaDs V x)]) (fun x => x ≤ 32) (fun x => 32 - x) 0 (by omega) ?_ ?_
      · refine weak_to (n := 4) rfl ?_ (by kernel_rfl) rfl
        repeat (first | exact trivial | refine ⟨.inl rfl, ?_⟩ | refine ⟨.inr ⟨rfl, rfl⟩, ?_⟩)
      · intro x hx
        by_cases hl : x < 32
        · have hsh : (24 - 8 * ((x : Int) % 4)).toNat = (24 - (x : Int) % 4 * 8).toNat := by omega
          have e : shaDs V (x + 1) = updN (shaDs V x) x ((V (x / 4) >>> (24 - 8 * ((x : Int) % 4)).toNat).setWidth 8) := by
            rw [hsh]; rfl
          generalize hd : shaDs V x = dd at e
          repeat (first
            | ((with_reducible apply r_idxA (j := x / 4)); rfl; rfl; exact (rfl : _ = Value.pointer (some ⟨_, _, _⟩)); (exact (rfl : _ = Value.int _ _)); (exact (rfl : _ = some (_, 1))); omega; omega; omega)
            | ((with_reducible apply r_idxA (j := x)); rfl; rfl; exact (rfl : _ = Value.pointer (some ⟨_, _, _⟩)); (exact (rfl : _ = Value.int _ _)); (exact (rfl : _ = some (_, 1))); omega; omega; omega)
            | ((with_reducible apply r_move); rfl; rfl; (exact (rfl : _ = Value.int _ _)))
            | ((with_reducible apply r_assign); rfl; rfl; (exact (rfl : _ = Value.int _ _)))
            | ((with_reducible apply r_bin); rfl; rfl; (exact (rfl : _ = Value.int _ _)); (exact (rfl : _ = Value.int _ _)); (first
            | with_reducible exact lss_t (by omega)
            | with_reducible exact bin_add rfl (by omega) (by omega)
            | with_reducible exact bin_sub rfl (by omega) (by omega)
            | with_reducible exact bin_mul rfl (by omega) (by omega)
            | with_reducible exact shr32 (by omega)
            | with_reducible exact quo_i (by omega) (by omega) (by omega)
            | with_reducible exact rem_p (by omega) (by omega)))
            | ((with_reducible apply r_conv); rfl; rfl; (exact (rfl : _ = Value.int _ _)); (exact conv8 rfl rfl (by first | exact ofI_set _ | rfl)))
            | ((with_reducible apply r_load); rfl; rfl; exact (rfl : _ = Value.pointer (some ⟨_, _, _⟩)); (exact loadA_row rfl rfl rfl (by omega) (fun _ => rfl)))
            | ((with_reducible apply r_store); rfl; exact (rfl : _ = Value.pointer (some ⟨_, _, _⟩)); (exact (rfl : _ = Value.int _ _)); (exact storeD_row rfl rfl rfl rfl rfl (by omega) rfl rfl); exact (rfl : _ = _ :: _))
            | with_reducible refine r_doneN ?_
            | with_reducible refine c_reg ?_
            | with_reducible refine c_seq ?_
            | with_reducible refine c_block ?_
            | with_reducible refine c_skip ?_
            | with_reducible refine x_then ?_
            | with_reducible refine x_blockN ?_
            | ((with_reducible apply c_true); rfl))
          refine x_round ⟨x + 1, by omega, by omega, ?_⟩
          rw [e]
          refine weak_to (n := 4) rfl ?_ rfl rfl
          repeat (first | exact trivial | refine ⟨.inl rfl, ?_⟩ | refine ⟨.inr ⟨rfl, rfl⟩, ?_⟩)
        · obtain rfl : x = 32 := by omega
          generalize shaDs V 32 = dd
          repeat (first
            | ((with_reducible apply r_move); rfl; rfl; (exact (rfl : _ = Value.int _ _)))
            | ((with_reducible apply r_bin); rfl; rfl; (exact (rfl : _ = Value.int _ _)); (exact (rfl : _ = Value.int _ _)); (with_reducible exact lss_f (by omega)))
            | ((with_reducible apply r_load); rfl; rfl; exact (rfl : _ = Value.pointer (some ⟨_, _, _⟩)); (exact (rfl : _ = some (Value.agg _))))
            | ((with_reducible apply r_store); rfl; exact (rfl : _ = Value.pointer (some ⟨_, _, _⟩)); (exact (rfl : _ = Value.agg _)); (rfl); exact (rfl : _ = _ :: _))
            | with_reducible refine r_doneN ?_
            | with_reducible refine c_reg ?_
            | with_reducible refine c_seq ?_
            | with_reducible refine c_exit ?_
            | with_reducible refine c_ret ?_
            | with_reducible refine x_then ?_
            | with_reducible refine x_thenE ?_
            | with_reducible refine x_leaveE ?_
            | ((with_reducible apply c_false); rfl)
            | ((with_reducible apply x_block); rfl))
          refine x_end ?_
          exact end_pv (v := dgV dd) rfl (pure_row fun _ => rfl) rfl
end Go.Flat
end
section
set_option linter.unusedVariables false
set_option maxRecDepth 20000
namespace Go.Flat
open Go.Proofs
variable {G : Glob}
theorem bin_cat {P : Program} {t : TypeId} {x y : Operand} {a b : ByteArray} (h : a.size + b.size ≤ 140737488351232) : binD P .add t x y (.string a) (.string b) = some (.string (a ++ b)) := by
  unfold binD
  rw [if_pos (show (pureV (.string a) && pureV (.string b)) = true from rfl)]
  have hg : evalPure P (eqGuard .add t x y (.string a) (.string b)) = some () := rfl
  rw [evalPure_bind, hg, Option.bind_some]
  have e : binOp .add t (.string a) (.string b) = Op.stringOp .add a b := rfl
  rw [e]
  unfold Op.stringOp
  dsimp only
  rw [if_neg (by show ¬ (((a.size + b.size : Nat) : Int) > 9223372036854775807); omega)]
  rfl
theorem bl_append (a b : ByteArray) : bl (a ++ b) = bl a ++ bl b := by
  unfold bl
  simp
theorem refText_ok (d : Nat → BitVec 8) : CallL Tryd.prog G 84 [dgV d] [] (.string (strOf (dgL d))) [] := by
  refine walk (fn := Tryd.f84) (nt := 5) rfl rfl rfl rfl ?_
  refine c_hole 1 (H' := [hole]) rfl ?_
  repeat (first
    | ((with_reducible apply r_str); rfl; rfl; exact (rfl : _ = Value.slice (some ⟨_, _, _⟩) _ _); exact strD_row (l := dgL d) rfl rfl rfl rfl (by show 0 + 32 ≤ 32; decide) rfl)
    | ((with_reducible apply r_assign); rfl; rfl; (exact (rfl : _ = Value.string _)))
    | ((with_reducible apply r_slice); rfl; rfl; (exact (rfl : _ = Value.pointer (some _))); rfl; rfl; (exact (rfl : _ = some (Value.slice (some ⟨_, _, _⟩) _ _))))
    | ((with_reducible apply r_box (nid := 0)); rfl; rfl; (exact (rfl : _ = Value.agg _)); rfl; exact (rfl : _ = _ :: _))
    | with_reducible refine r_doneN ?_
    | with_reducible refine c_reg ?_
    | with_reducible refine c_seq ?_
    | with_reducible refine c_ret ?_
    | with_reducible refine x_then ?_)
  refine x_end ?_
  exact end_pv (v := .string _) rfl rfl rfl
def refKF (kk : Nat → BitVec 32) (a b : Nat → BitVec 8) : Nat → BitVec 8 := refS kk (msgOf [one1, strOf (dgL a), strOf (dgL b)])
theorem refKnot_ok (kk : Nat → BitVec 32) (hG : G 2 = some (rowE w32 64 kk)) (a b : Nat → BitVec 8) : CallL Tryd.prog G 62 [dgV a, dgV b] [] (dgV (refKF kk a b)) [] := by
  refine walk (fn := Tryd.f62) (nt := 12) rfl rfl rfl rfl ?_
  have h32 : ∀ d : Nat → BitVec 8, (strOf (dgL d)).size = 32 := fun d => by rw [strOf_size, dgL_len]
  have h1 : one1.size = 1 := rfl
  have hb : bl (one1 ++ strOf (dgL a) ++ strOf (dgL b)) = msgOf [one1, strOf (dgL a), strOf (dgL b)] := by
    rw [bl_append, bl_append]; simp [msgOf]
  have hS := refSum_ok (G := G) kk hG (one1 ++ strOf (dgL a) ++ strOf (dgL b)) (by rw [ByteArray.size_append, ByteArray.size_append, h32, h32, h1]; omega)
  rw [hb] at hS
  change CallL Tryd.prog G 60 _ [] (dgV (refKF kk a b)) [] at hS
  generalize refKF kk a b = k at *
  have c1 : one1.size + (strOf (dgL a)).size ≤ 140737488351232 := by rw [h32, h1]; omega
  have c2 : (one1 ++ strOf (dgL a)).size + (strOf (dgL b)).size ≤ 140737488351232 := by rw [ByteArray.size_append, h32, h32, h1]; omega
  have hT := refText_ok (G := G) a
  have hT2 := refText_ok (G := G) b
  generalize strOf (dgL a) = sa at *
  generalize strOf (dgL b) = sb at *
  refine c_hole 3 (H' := [hole, hole, hole]) rfl ?_
  repeat (first
    | ((with_reducible apply r_load); rfl; rfl; exact (rfl : _ = Value.pointer (some ⟨0, _, _⟩)); exact (show _ = some (dgV a) by kernel_rfl))
    | ((with_reducible apply r_load); rfl; rfl; exact (rfl : _ = Value.pointer (some ⟨1, _, _⟩)); exact (show _ = some (dgV b) by kernel_rfl))
    | ((with_reducible apply r_bin); rfl; rfl; exact (rfl : _ = Value.string _); exact (rfl : _ = Value.string _); first | exact bin_cat c1 | exact bin_cat c2)
    | ((with_reducible apply r_store); rfl; exact (rfl : _ = Value.pointer (some ⟨_, _, _⟩)); (exact (rfl : _ = Value.agg _)); (rfl); exact (rfl : _ = _ :: _))
    | ((with_reducible apply r_box (nid := 0)); rfl; rfl; (exact (rfl : _ = Value.agg _)); rfl; exact (rfl : _ = _ :: _))
    | ((with_reducible apply r_box (nid := 1)); rfl; rfl; (exact (rfl : _ = Value.agg _)); rfl; exact (rfl : _ = _ :: _))
    | ((with_reducible apply r_alloc (nid := 2)); rfl; rfl; rfl; exact (rfl : _ = _ :: _))
    | ((with_reducible apply r_callP (hT)); rfl; rfl; rfl; rfl; rfl; (exact (rfl : _ = Value.string _)))
    | ((with_reducible apply r_callP (hT2)); rfl; rfl; rfl; rfl; rfl; (exact (rfl : _ = Value.string _)))
    | ((with_reducible apply r_callP (hS)); rfl; rfl; rfl; rfl; rfl; (exact (rfl : _ = Value.agg _)))
    | with_reducible refine r_doneN ?_
    | with_reducible refine c_reg ?_
    | with_reducible refine c_seq ?_
    | with_reducible refine c_ret ?_
    | with_reducible refine x_then ?_
    | (with_reducible refine r_doneD (by kernel_rfl) ?_)
    | (with_reducible refine c_draw (by kernel_rfl) ?_))
  refine x_end ?_
  exact end_pv (v := dgV k) (by kernel_rfl) (pure_row fun _ => rfl) rfl
end Go.Flat
end
section
set_option linter.unusedVariables false
set_option maxRecDepth 20000
namespace Go.Flat

theorem rot_turn (x : BitVec 32) {n : Nat} (h0 : 0 < n) (h1 : n < 32) {z : Int} (hz : z = -(n : Int)) : rot x (z % 32).toNat = turnF x n := by
  subst hz
  have e : ((-(n : Int)) % 32).toNat = 32 - n := by omega
  unfold rot turnF
  rw [e, show 32 - (32 - n) = n from by omega, BitVec.or_comm]
theorem chF (x y z : BitVec 32) : z ^^^ (x &&& (y ^^^ z)) = (x &&& y) ^^^ (~~~x &&& z) := by
  apply BitVec.eq_of_getLsbD_eq
  intro i hi
  simp only [BitVec.getLsbD_xor, BitVec.getLsbD_and, BitVec.getLsbD_not, hi, decide_true, Bool.true_and]
  cases x.getLsbD i <;> cases y.getLsbD i <;> cases z.getLsbD i <;> rfl
theorem byteF (x : BitVec 32) (y : BitVec 8) : x <<< 8 ||| y.setWidth 32 = x * BitVec.ofInt 32 256 + y.setWidth 32 := by
  apply BitVec.eq_of_toNat_eq
  rw [BitVec.toNat_or, BitVec.toNat_shiftLeft, BitVec.toNat_setWidth, BitVec.toNat_add, BitVec.toNat_mul, BitVec.toNat_setWidth]
  have hy := y.isLt
  have hx := x.isLt
  have h256 : (BitVec.ofInt 32 256).toNat = 256 := rfl
  rw [h256, Nat.mod_eq_of_lt (show y.toNat < 2 ^ 32 by omega)]
  have e : x.toNat <<< 8 % 2 ^ 32 = (x.toNat % 2 ^ 24) <<< 8 := by
    rw [Nat.shiftLeft_eq, Nat.shiftLeft_eq]; omega
  rw [e, ← Nat.shiftLeft_add_eq_or_of_lt (by omega : y.toNat < 2 ^ 8), Nat.shiftLeft_eq]
  omega
theorem inBs_eq (b : Nat → BitVec 8) : ∀ k, inBs b k = inR b k
  | 0 => rfl
  | k + 1 => by
    simp only [inBs, inR, inB]
    rw [inBs_eq b k, byteF]
def wF (b : Nat → BitVec 8) (i : Nat) : BitVec 32 := schR b (i - 15) i
theorem schR_eq (b : Nat → BitVec 8) : ∀ k i, i < 16 + k → schR b k i = wF b i
  | 0, i, h => by unfold wF; rw [show i - 15 = 0 from by omega]
  | k + 1, i, h => by
    by_cases he : i = 16 + k
    · subst he; unfold wF; rw [show 16 + k - 15 = k + 1 from by omega]
    · have := schR_eq b k i (by omega)
      rw [← this]
      simp only [schR, updN, he, if_false]
theorem wF_step (b : Nat → BitVec 8) (t : Nat) : wF b (t + 16) = refW (wF b) (t + 16) := by
  have e : wF b (t + 16) = refW (schR b t) (16 + t) := by
    unfold wF
    rw [show t + 16 - 15 = t + 1 from by omega]
    simp only [schR, updN]
    rw [if_pos (by omega)]
  rw [e, Nat.add_comm 16 t]
  unfold refW
  rw [schR_eq b t _ (by omega), schR_eq b t _ (by omega), schR_eq b t _ (by omega), schR_eq b t _ (by omega)]
theorem roll (kk v : Nat → BitVec 32) (b : Nat → BitVec 8) : ∀ t j, j < 16 → (shaT kk v (inBs b 64) t).2 ((t + j) % 16) = wF b (t + j)
  | 0, j, h => by
    rw [Nat.zero_add, Nat.mod_eq_of_lt h]
    show inBs b 64 j = _
    rw [inBs_eq]
    exact schR_eq b 0 j (by omega)
  | t + 1, j, h => by
    have ih := roll kk v b t
    simp only [shaT]
    generalize (shaT kk v (inBs b 64) t).2 = w at ih ⊢
    unfold sha3w updN
    by_cases he : (t + 1 + j) % 16 = t % 16
    · rw [if_pos he]
      have hj : j = 15 := by omega
      subst hj
      have h0 := ih 0 (by omega)
      have h1 := ih 1 (by omega)
      have h9 := ih 9 (by omega)
      have h14 := ih 14 (by omega)
      rw [Nat.add_zero] at h0
      rw [show t + 1 + 15 = t + 16 from by omega, wF_step]
      unfold refW three3
      rw [h0, h1, h9, h14, rot_turn _ (n := 7) (by omega) (by omega) (by omega), rot_turn _ (n := 18) (by omega) (by omega) (by omega), rot_turn _ (n := 17) (by omega) (by omega) (by omega), rot_turn _ (n := 19) (by omega) (by omega) (by omega)]
      rw [show t + 16 - 16 = t from by omega, show t + 16 - 7 = t + 9 from by omega, show t + 16 - 15 = t + 1 from by omega, show t + 16 - 2 = t + 14 from by omega]
      simp only [BitVec.add_assoc]
    · rw [if_neg he, show t + 1 + j = t + (j + 1) from by omega]
      exact ih (j + 1) (by omega)
theorem refT_eq (kk v : Nat → BitVec 32) (b : Nat → BitVec 8) : ∀ t, t ≤ 64 → (shaT kk v (inBs b 64) t).1 = refT kk v (schR b 48) t
  | 0, _ => rfl
  | t + 1, h => by
    have ih := refT_eq kk v b t (by omega)
    have hr := roll kk v b t 0 (by omega)
    rw [Nat.add_zero] at hr
    simp only [shaT, refT]
    rw [ih]
    generalize refT kk v (schR b 48) t = V
    have hp : sha3p (kk t) V (shaT kk v (inBs b 64) t).2 t = refP (kk t) V (schR b 48) t := by
      unfold sha3p refP three3
      rw [hr, schR_eq b 48 t (by omega), chF, rot_turn _ (n := 6) (by omega) (by omega) (by omega), rot_turn _ (n := 11) (by omega) (by omega) (by omega), rot_turn _ (n := 25) (by omega) (by omega) (by omega)]
    have hq : sha3q V = refQ V := by
      unfold sha3q refQ three3
      rw [rot_turn _ (n := 2) (by omega) (by omega) (by omega), rot_turn _ (n := 13) (by omega) (by omega) (by omega), rot_turn _ (n := 22) (by omega) (by omega) (by omega)]
    rw [hp, hq]
theorem refB_eq (kk v : Nat → BitVec 32) (b : Nat → BitVec 8) : refB kk v b = rndV kk v b := by
  unfold refB rndV
  rw [refT_eq kk v b 64 (Nat.le_refl _)]
theorem absR_eq (kk v : Nat → BitVec 32) (l : Bs) : ∀ j, absR kk v l j = absN kk v l j
  | 0 => rfl
  | j + 1 => by
    simp only [absR, absN]
    rw [absR_eq kk v l j, refB_eq]
theorem refS_eq (kk : Nat → BitVec 32) (M : Bs) : refS kk M = shaOf kk M := by
  unfold refS shaOf absM
  rw [absR_eq]
theorem refKF_eq (kk : Nat → BitVec 32) (a b : Nat → BitVec 8) : refKF kk a b = knotF kk a b := refS_eq kk _
end Go.Flat
end
section
set_option linter.unusedVariables false
set_option maxRecDepth 20000
namespace Go.Flat
open Go.Proofs
variable {G : Glob}
set_option maxHeartbeats 4000000 in
theorem refSplit_ok (n : Int) (h : n ≤ 9223372036854775807) (hl : -9223372036854775808 ≤ n) : CallL Tryd.prog G 61 [.int .i64 n] [] (.int .i64 (splitF n)) [] := by
  refine walk (fn := Tryd.f61) (nt := 14) rfl rfl rfl rfl ?_
  by_cases h2 : n < 2
  · rw [show splitF n = 0 from by unfold splitF; rw [if_pos h2]]
    repeat (first
      | ((with_reducible apply r_move); rfl; rfl; (exact (rfl : _ = Value.int _ _)))
      | ((with_reducible apply r_assign); rfl; rfl; (exact (rfl : _ = Value.int _ _)))
      | ((with_reducible apply r_bin); rfl; rfl; (exact (rfl : _ = Value.int _ _)); (exact (rfl : _ = Value.int _ _)); (with_reducible exact lss_t (by omega)))
      | with_reducible refine r_doneN ?_
      | with_reducible refine c_reg ?_
      | with_reducible refine c_seq ?_
      | with_reducible refine c_ret ?_
      | with_reducible refine x_then ?_
      | with_reducible refine x_thenR ?_
      | ((with_reducible apply c_true); rfl))
    refine x_end ?_
    exact end_pv (v := .int .i64 0) rfl rfl rfl
  · obtain ⟨n, rfl⟩ : ∃ m : Nat, n = m := ⟨n.toNat, by omega⟩
    repeat (first
      | ((with_reducible apply r_move); rfl; rfl; (exact (rfl : _ = Value.int _ _)))
      | ((with_reducible apply r_assign); rfl; rfl; (exact (rfl : _ = Value.int _ _)))
      | ((with_reducible apply r_bin); rfl; rfl; (exact (rfl : _ = Value.int _ _)); (exact (rfl : _ = Value.int _ _)); (with_reducible exact lss_f (by omega)))
      | with_reducible refine r_doneN ?_
      | with_reducible refine c_reg ?_
      | with_reducible refine c_seq ?_
      | with_reducible refine c_block ?_
      | with_reducible refine c_skip ?_
      | with_reducible refine x_then ?_
      | ((with_reducible apply c_false); rfl))
    refine c_loopN (fun j : Nat => [.int .i64 (n : Nat), dead, dead, .int .i64 ((2 ^ j : Nat) : Int)]) (fun _ => []) (fun j => 2 ^ j < n) (fun j => n - 2 ^ j) 0 (show 1 < n by omega) ?_ ?_
    · refine weak_to (n := 0) rfl ?_ rfl rfl
      repeat (first | exact trivial | refine ⟨.inl rfl, ?_⟩ | refine ⟨.inr ⟨rfl, rfl⟩, ?_⟩)
    · intro j hj
      have hp1 : 2 ^ (j + 1) = 2 * 2 ^ j := by rw [Nat.pow_succ]; omega
      have hp0 : 1 ≤ 2 ^ j := Nat.pow_pos (by decide)
      by_cases hlt : 2 ^ j + 2 ^ j < n
      · generalize hq : 2 ^ j = q at *
        repeat (first
          | ((with_reducible apply r_move); rfl; rfl; (exact (rfl : _ = Value.int _ _)))
          | ((with_reducible apply r_assign); rfl; rfl; (exact (rfl : _ = Value.int _ _)))
          | ((with_reducible apply r_bin); rfl; rfl; (exact (rfl : _ = Value.int _ _)); (exact (rfl : _ = Value.int _ _)); (first
          | with_reducible exact lss_t (by omega)
          | with_reducible exact bin_sub rfl (by omega) (by omega)
          | with_reducible exact bin_mul rfl (by omega) (by omega)))
          | with_reducible refine r_doneN ?_
          | with_reducible refine c_reg ?_
          | with_reducible refine c_seq ?_
          | with_reducible refine c_block ?_
          | with_reducible refine c_skip ?_
          | with_reducible refine x_then ?_
          | with_reducible refine x_blockN ?_
          | ((with_reducible apply c_true); rfl))
        refine x_round ⟨j + 1, by omega, by omega, ?_⟩
        rw [hp1]
        refine weak_to (n := 0) rfl ⟨.inr ⟨rfl, rfl⟩, .inl rfl, .inl rfl, .inr ⟨?_, rfl⟩, trivial⟩ rfl rfl
        rfl
      · have e : splitF (n : Int) = ((2 ^ j : Nat) : Int) := by
          obtain ⟨s1, s2, s3⟩ := splitF_pos (n := n) (by omega)
          rw [s3]
          have := splitN_of (n := n) (j := j) hj (by omega)
          unfold splitN at this
          rw [this]
        rw [e]
        generalize hq : 2 ^ j = q at *
        repeat (first
          | ((with_reducible apply r_move); rfl; rfl; (exact (rfl : _ = Value.int _ _)))
          | ((with_reducible apply r_assign); rfl; rfl; (exact (rfl : _ = Value.int _ _)))
          | ((with_reducible apply r_bin); rfl; rfl; (exact (rfl : _ = Value.int _ _)); (exact (rfl : _ = Value.int _ _)); (first
          | with_reducible exact lss_f (by omega)
          | with_reducible exact bin_sub rfl (by omega) (by omega)))
          | with_reducible refine r_doneN ?_
          | with_reducible refine c_reg ?_
          | with_reducible refine c_seq ?_
          | with_reducible refine c_exit ?_
          | with_reducible refine c_ret ?_
          | with_reducible refine x_then ?_
          | with_reducible refine x_thenE ?_
          | with_reducible refine x_leaveE ?_
          | ((with_reducible apply c_false); rfl)
          | ((with_reducible apply x_block); rfl))
        refine x_end ?_
        exact end_pv (v := .int .i64 (q : Nat)) rfl rfl rfl
set_option maxHeartbeats 8000000 in
theorem refRoot_ok (kk : Nat → BitVec 32) (hG : G 2 = some (rowE w32 64 kk)) : ∀ (n : Nat) (ds : List D) (c : Nat), ds.length = n → n ≤ 1000000 → n ≤ c → CallL Tryd.prog G 33 [slv 0 0 n c] [dsR ds] (dgV (rootI kk ds)) [dsR ds] := by
  intro n
  induction n using Nat.strongRecOn with
  | ind n ih =>
    intro ds c hn hb hc
    refine walk (fn := Tryd.f33) (nt := 26) rfl rfl rfl rfl ?_
    refine c_hole 1 (H' := [dsR ds, hole]) rfl ?_
    by_cases h0 : n = 0
    · have hS := refSum_ok (G := G) kk hG ⟨#[]⟩ (by show 0 ≤ _; decide)
      have hr : refS kk (bl ⟨#[]⟩) = rootI kk ds := by
        rw [refS_eq, rootI, if_pos (by omega)]; rfl
      rw [hr] at hS
      generalize rootI kk ds = x at *
      repeat (first
        | ((with_reducible apply r_move); rfl; rfl; (exact (rfl : _ = Value.slice _ _ _)))
        | ((with_reducible apply r_bin); rfl; rfl; (exact (rfl : _ = Value.int _ _)); (exact (rfl : _ = Value.int _ _)); (with_reducible exact eql_t (by omega)))
        | ((with_reducible apply r_len); rfl; rfl; (exact (rfl : _ = Value.slice _ _ _)); (exact (rfl : _ = some (Value.int _ _))))
        | ((with_reducible apply r_store); rfl; exact (rfl : _ = Value.pointer (some ⟨_, _, _⟩)); (exact (rfl : _ = Value.agg _)); (rfl); exact (rfl : _ = _ :: _))
        | ((with_reducible apply r_alloc (nid := 1)); rfl; rfl; rfl; exact (rfl : _ = _ :: _))
        | ((with_reducible apply r_callP (hS)); rfl; rfl; rfl; rfl; rfl; (exact (rfl : _ = Value.agg _)))
        | with_reducible refine r_doneN ?_
        | with_reducible refine c_reg ?_
        | with_reducible refine c_seq ?_
        | with_reducible refine c_ret ?_
        | with_reducible refine x_then ?_
        | with_reducible refine x_thenR ?_
        | ((with_reducible apply c_true); rfl))
      refine x_end ?_
      refine end_same (v := dgV x) (by kernel_rfl) rfl rfl (dsR_kept ds) (argV_pure (pure_row fun _ => rfl) rfl)
    by_cases h1 : n = 1
    · obtain ⟨d, rfl⟩ : ∃ d, ds = [d] := by
        cases ds with
        | nil => simp at hn; omega
        | cons d t => cases t with
          | nil => exact ⟨d, rfl⟩
          | cons d2 t => simp at hn; omega
      rw [root1]
      repeat (first
        | ((with_reducible apply r_load); rfl; rfl; exact (rfl : _ = Value.pointer (some ⟨0, _, _⟩)); exact loadA_agg (n := 32) rfl rfl (by show 0 * 32 + 32 ≤ (dsC [d]).length; rw [dsC_len]; simp) (dsC_atI [d] 0 (by simp)))
        | ((with_reducible apply r_idxS (j := 0 * 32)); rfl; rfl; exact (rfl : _ = Value.slice (some ⟨_, _, _⟩) _ _); (exact (rfl : _ = Value.int _ _)); (exact (rfl : _ = some (_, 32))); omega; omega; omega)
        | ((with_reducible apply r_move); rfl; rfl; (exact (rfl : _ = Value.slice _ _ _)))
        | ((with_reducible apply r_bin); rfl; rfl; (exact (rfl : _ = Value.int _ _)); (exact (rfl : _ = Value.int _ _)); (first
        | with_reducible exact eql_t (by omega)
        | with_reducible exact eql_f (by omega)))
        | ((with_reducible apply r_len); rfl; rfl; (exact (rfl : _ = Value.slice _ _ _)); (exact (rfl : _ = some (Value.int _ _))))
        | ((with_reducible apply r_store); rfl; exact (rfl : _ = Value.pointer (some ⟨_, _, _⟩)); (exact (rfl : _ = Value.agg _)); (rfl); exact (rfl : _ = _ :: _))
        | ((with_reducible apply r_alloc (nid := 1)); rfl; rfl; rfl; exact (rfl : _ = _ :: _))
        | with_reducible refine r_doneN ?_
        | with_reducible refine c_reg ?_
        | with_reducible refine c_seq ?_
        | with_reducible refine c_skip ?_
        | with_reducible refine c_ret ?_
        | with_reducible refine x_then ?_
        | with_reducible refine x_thenR ?_
        | ((with_reducible apply c_true); rfl)
        | ((with_reducible apply c_false); rfl))
      refine x_end ?_
      refine end_same (v := dgV d) (by kernel_rfl) rfl rfl (dsR_kept [d]) (argV_pure (pure_row fun _ => rfl) rfl)
    · obtain ⟨s1, s2, s3⟩ := splitF_pos (n := n) (by omega)
      have hS := refSplit_ok (G := G) (n : Int) (by omega) (by omega)
      rw [s3] at hS
      have hkk : splitN n = (splitF (n : Int)).toNat := rfl
      have hx := rootI_two kk (ds := ds) (by omega)
      rw [hn, hkk] at hx
      generalize (splitF (n : Int)).toNat = k at *
      have e1 : ds.take k = sub ds 0 k := by simp [sub]
      have e2 : ds.drop k = sub ds k (n - k) := by unfold sub; rw [List.take_of_length_le (by simp; omega)]
      rw [e1, e2] at hx
      have hRa := ih k (by omega) (sub ds 0 k) c (sub_len (by omega)) (by omega) (by omega)
      have hRb := ih (n - k) (by omega) (sub ds k (n - k)) (c - k) (sub_len (by omega)) (by omega) (by omega)
      have hK := refKnot_ok (G := G) kk hG (rootI kk (sub ds 0 k)) (rootI kk (sub ds k (n - k)))
      rw [refKF_eq, ← hx] at hK
      generalize rootI kk (sub ds 0 k) = a at *
      generalize rootI kk (sub ds k (n - k)) = b at *
      generalize rootI kk ds = x at *
      repeat (first
        | ((with_reducible apply r_callN (e := [some (0, 0)]) (nid := 0) hRa); rfl; rfl; rfl; rfl; rfl; rfl; rfl; refine ⟨⟨⟨rfl, rfl, by omega, by omega, by omega⟩, trivial⟩, ⟨emb_sub rfl (.inl rfl) (by omega) rfl, trivial⟩, rfl, rfl, rfl⟩; exact (rfl : _ = Value.agg _); exact (rfl : _ = _ :: _))
        | ((with_reducible apply r_callN (e := [some (0, k * 32)]) (nid := 0) hRb); rfl; rfl; rfl; rfl; rfl; rfl; rfl; refine ⟨⟨⟨rfl, rfl, by omega, by omega, by omega⟩, trivial⟩, ⟨emb_sub rfl (.inl rfl) (by omega) rfl, trivial⟩, rfl, rfl, rfl⟩; exact (rfl : _ = Value.agg _); exact (rfl : _ = _ :: _))
        | ((with_reducible apply r_slice); rfl; rfl; exact (rfl : _ = Value.slice (some ⟨_, _, _⟩) _ _); rfl; rfl; first | exact slice_hi (h := k) rfl rfl rfl (by omega) rfl | exact slice_lo (l := k) (sz := 32) (j := k * 32) (m := n - k) (c' := c - k) rfl rfl rfl rfl (by omega) (by omega) rfl (by omega) (by omega) (by omega))
        | ((with_reducible apply r_move); rfl; rfl; (first
        | exact (rfl : _ = Value.int _ _)
        | exact (rfl : _ = Value.slice _ _ _)))
        | ((with_reducible apply r_assign); rfl; rfl; (exact (rfl : _ = Value.int _ _)))
        | ((with_reducible apply r_bin); rfl; rfl; (exact (rfl : _ = Value.int _ _)); (exact (rfl : _ = Value.int _ _)); (with_reducible exact eql_f (by omega)))
        | ((with_reducible apply r_len); rfl; rfl; (exact (rfl : _ = Value.slice _ _ _)); (exact (rfl : _ = some (Value.int _ _))))
        | ((with_reducible apply r_store); rfl; exact (rfl : _ = Value.pointer (some ⟨_, _, _⟩)); (exact (rfl : _ = Value.agg _)); (rfl); exact (rfl : _ = _ :: _))
        | ((with_reducible apply r_alloc (nid := 1)); rfl; rfl; rfl; exact (rfl : _ = _ :: _))
        | ((with_reducible apply r_callP (hS)); rfl; rfl; rfl; rfl; rfl; (exact (rfl : _ = Value.int _ _)))
        | ((with_reducible apply r_callP (hK)); rfl; rfl; rfl; rfl; rfl; (exact (rfl : _ = Value.agg _)))
        | with_reducible refine r_doneN ?_
        | with_reducible refine c_reg ?_
        | with_reducible refine c_seq ?_
        | with_reducible refine c_skip ?_
        | with_reducible refine c_ret ?_
        | with_reducible refine x_then ?_
        | (with_reducible refine r_doneD (by kernel_rfl) ?_)
        | (with_reducible refine c_draw (by kernel_rfl) ?_)
        | ((with_reducible apply c_false); rfl))
      refine x_end ?_
      refine end_same (v := dgV x) (by kernel_rfl) rfl rfl (dsR_kept ds) (argV_pure (pure_row fun _ => rfl) rfl)
set_option maxHeartbeats 8000000 in
theorem behind_ok (ds : List D) (d : D) (n c : Nat) (hn : ds.length = n) (hb : n ≤ 1000000) (hc : n ≤ c) : CallL Tryd.prog G 66 [slv 0 0 n c, dgV d] [dsR ds] (slv 1 0 (n + 1) (n + 1)) [dsR ds, dsB (ds ++ [d])] := by
  refine walk (fn := Tryd.f66) (nt := 14) rfl rfl rfl rfl ?_
  refine c_hole 3 (H' := [dsR ds, hole, hole, hole]) rfl ?_
  repeat (first
    | ((with_reducible apply r_box (nid := 2)); rfl; rfl; exact (rfl : _ = Value.agg _); rfl; exact (show _ = [dsR ds, hole, dgB d, hole] by kernel_rfl))
    | ((with_reducible apply r_appN (nid := 1)); rfl; rfl; rfl; exact .inl ⟨_, rfl⟩; exact (rfl : _ = nilS); exact (rfl : _ = Value.slice (some ⟨_, _, _⟩) _ _); exact appN_ds (n := n) (ds := ds) (rfl : _ = some (32, _, 32)) rfl (srcA_n rfl rfl hn) (by decide) (by omega) rfl; exact (show _ = [dsR ds, dsB ds, dgB d, hole] by kernel_rfl))
    | ((with_reducible apply r_load); rfl; rfl; exact (rfl : _ = Value.pointer (some ⟨2, _, _⟩)); exact (show _ = some (dgV d) by kernel_rfl))
    | ((with_reducible apply r_lit (nid := 3)); rfl; rfl; rfl; exact (rfl : _ = some (Value.slice _ _ _, _)); exact (show _ = [dsR ds, dsB ds, dgB d, dsB [d]] by kernel_rfl))
    | ((with_reducible apply r_append); rfl; rfl; rfl; exact .inl ⟨_, rfl⟩; exact (rfl : _ = Value.slice (some ⟨_, _, _⟩) _ _); exact (rfl : _ = Value.slice (some ⟨_, _, _⟩) _ _); exact appD_ds (n := n) (k := 1) (n' := n + 1) (ls := ds) (ms := [d]) (rfl : _ = some (32, _, 32)) rfl (srcA_n (n := 1) rfl rfl rfl) rfl hn rfl (by decide) (by omega); rfl; exact (show _ = [dsR ds, dsB (ds ++ [d]), dgB d, dsB [d]] by kernel_rfl))
    | ((with_reducible apply r_move); rfl; rfl; (exact (rfl : _ = Value.slice _ _ _)))
    | ((with_reducible apply r_assign); rfl; rfl; (exact (rfl : _ = Value.slice _ _ _)))
    | with_reducible refine r_doneN ?_
    | with_reducible refine c_reg ?_
    | with_reducible refine c_seq ?_
    | with_reducible refine c_ret ?_
    | with_reducible refine x_then ?_)
  refine x_end ?_
  refine end_same (v := slv 1 0 (n + 1) (n + 1)) rfl rfl rfl ?_ ?_
  · simp [keptB, dsR, dsB]
  · exact ⟨rfl, Nat.zero_add _ ▸ rfl, rfl, Nat.le_refl _, Nat.le_refl _⟩
end Go.Flat
end
section
set_option linter.unusedVariables false
set_option maxRecDepth 20000
namespace Go.Flat
open Go.Proofs
variable {G : Glob}
set_option maxHeartbeats 8000000 in
theorem refIncl_ok (kk : Nat → BitVec 32) (hG : G 2 = some (rowE w32 64 kk)) : ∀ (n : Nat) (ds : List D) (c i : Nat), ds.length = n → n ≤ 1000000 → n ≤ c → i < n →
    CallL Tryd.prog G 38 [slv 0 0 n c, .int .i64 (i : Nat)] [dsR ds] (slv 1 0 (inclP kk ds i).length (inclP kk ds i).length) [dsR ds, dsB (inclP kk ds i)] := by
  intro n
  induction n using Nat.strongRecOn with
  | ind n ih =>
    intro ds c i hn hb hc hi
    refine walk (fn := Tryd.f38) (nt := 37) rfl rfl rfl rfl ?_
    refine c_hole 2 (H' := [dsR ds, hole, hole]) rfl ?_
    by_cases h1 : n = 1
    · have hp : inclP kk ds i = [] := inclP_one kk i (by omega)
      rw [hp]
      iterate 19 (first
        | ((with_reducible apply r_move); rfl; rfl; (exact (rfl : _ = Value.slice _ _ _)))
        | ((with_reducible apply r_assign); rfl; rfl; (exact (rfl : _ = Value.slice _ _ _)))
        | ((with_reducible apply r_bin); rfl; rfl; (exact (rfl : _ = Value.int _ _)); (exact (rfl : _ = Value.int _ _)); (with_reducible exact eql_t (by omega)))
        | ((with_reducible apply r_len); rfl; rfl; (exact (rfl : _ = Value.slice _ _ _)); (exact (rfl : _ = some (Value.int _ _))))
        | with_reducible refine r_doneN ?_
        | with_reducible refine c_reg ?_
        | with_reducible refine c_seq ?_
        | with_reducible refine x_then ?_
        | ((with_reducible apply c_true); rfl))
      refine c_weak (Weak.nilTmp (i := 4) (b := 1) true 32 rfl (by decide) rfl) ?_
      repeat (first
        | with_reducible refine c_ret ?_
        | with_reducible refine x_thenR ?_)
      refine x_end ?_
      refine end_same (v := slv 1 0 0 0) rfl rfl rfl ?_ ?_
      · simp [keptB, dsR, dsB, newA]
      · exact ⟨rfl, rfl, rfl, Nat.le_refl _, Nat.le_refl _⟩
    · obtain ⟨s1, s2, s3⟩ := splitF_pos (n := n) (by omega)
      have hS := refSplit_ok (G := G) (n : Int) (by omega) (by omega)
      rw [s3] at hS
      have hkk : splitN n = (splitF (n : Int)).toNat := rfl
      generalize (splitF (n : Int)).toNat = k at *
      have e1 : ds.take k = sub ds 0 k := by simp [sub]
      have e2 : ds.drop k = sub ds k (n - k) := by unfold sub; rw [List.take_of_length_le (by simp; omega)]
      by_cases hik : i < k
      · have hp := inclP_lo kk (l := ds) (i := i) (by omega) (by rw [hn, hkk]; exact hik)
        rw [hn, hkk, e1, e2] at hp
        have hR := ih k (by omega) (sub ds 0 k) c i (sub_len (by omega)) (by omega) (by omega) hik
        have hRb := refRoot_ok (G := G) kk hG (n - k) (sub ds k (n - k)) (c - k) (sub_len (by omega)) (by omega) (by omega)
        have hQl := inclP_len kk k (sub ds 0 k) i (by rw [sub_len (by omega)]; exact Nat.le_refl _)
        rw [sub_len (by omega)] at hQl
        generalize inclP kk (sub ds 0 k) i = Q at *
        generalize rootI kk (sub ds k (n - k)) = x at *
        have hBh := behind_ok (G := G) Q x Q.length Q.length rfl (by omega) (Nat.le_refl _)
        generalize hq : Q.length = q at *
        repeat (first
          | ((with_reducible apply r_callN (e := [some (0, 0)]) (nid := 2) hR); rfl; rfl; rfl; rfl; rfl; rfl; rfl; refine ⟨⟨⟨rfl, rfl, by omega, by omega, by omega⟩, rfl, trivial⟩, ⟨emb_sub rfl (.inl rfl) (by omega) rfl, trivial⟩, rfl, rfl, rfl⟩; exact (show _ = slv 2 0 q q by kernel_rfl); exact (show _ = [dsR ds, hole, dsB Q] by kernel_rfl))
          | ((with_reducible apply r_callN (e := [some (0, k * 32)]) (nid := 0) hRb); rfl; rfl; rfl; rfl; rfl; rfl; rfl; refine ⟨⟨⟨rfl, rfl, by omega, by omega, by omega⟩, trivial⟩, ⟨emb_sub rfl (.inl rfl) (by omega) rfl, trivial⟩, rfl, rfl, rfl⟩; exact (rfl : _ = Value.agg _); exact (rfl : _ = _ :: _))
          | ((with_reducible apply r_callN (e := [some (2, 0)]) (nid := 1) hBh); rfl; rfl; rfl; rfl; rfl; rfl; rfl; refine ⟨⟨⟨rfl, rfl, by omega, by omega, by omega⟩, rfl, trivial⟩, ⟨emb_ds rfl, trivial⟩, rfl, rfl, rfl⟩; exact (show _ = slv 1 0 (q + 1) (q + 1) by kernel_rfl); exact (show _ = [dsR ds, dsB (Q ++ [x]), dsB Q] by kernel_rfl))
          | ((with_reducible apply r_slice); rfl; rfl; exact (rfl : _ = Value.slice (some ⟨_, _, _⟩) _ _); rfl; rfl; first | exact slice_hi (h := k) rfl rfl rfl (by omega) rfl | exact slice_lo (l := k) (sz := 32) (j := k * 32) (m := n - k) (c' := c - k) rfl rfl rfl rfl (by omega) (by omega) rfl (by omega) (by omega) (by omega))
          | ((with_reducible apply r_move); rfl; rfl; (first
          | exact (rfl : _ = Value.int _ _)
          | exact (rfl : _ = Value.slice _ _ _)))
          | ((with_reducible apply r_assign); rfl; rfl; (first
          | exact (rfl : _ = Value.int _ _)
          | exact (rfl : _ = Value.slice _ _ _)))
          | ((with_reducible apply r_bin); rfl; rfl; (exact (rfl : _ = Value.int _ _)); (exact (rfl : _ = Value.int _ _)); (first
          | with_reducible exact lss_t (by omega)
          | with_reducible exact eql_f (by omega)))
          | ((with_reducible apply r_len); rfl; rfl; (exact (rfl : _ = Value.slice _ _ _)); (exact (rfl : _ = some (Value.int _ _))))
          | ((with_reducible apply r_callP (hS)); rfl; rfl; rfl; rfl; rfl; (exact (rfl : _ = Value.int _ _)))
          | with_reducible refine r_doneN ?_
          | with_reducible refine c_reg ?_
          | with_reducible refine c_seq ?_
          | with_reducible refine c_skip ?_
          | with_reducible refine c_ret ?_
          | with_reducible refine x_then ?_
          | with_reducible refine x_thenR ?_
          | (with_reducible refine r_doneD (by kernel_rfl) ?_)
          | (with_reducible refine c_draw (by kernel_rfl) ?_)
          | ((with_reducible apply c_true); rfl)
          | ((with_reducible apply c_false); rfl))
        refine x_end ?_
        rw [hp]
        refine end_same (v := slv 1 0 (q + 1) (q + 1)) rfl rfl rfl ?_ ?_
        · simp [keptB, dsR, dsB]
        · exact ⟨rfl, Nat.zero_add _ ▸ rfl, by simp [hq], by simp [hq], by simp [hq]⟩
      · have hp := inclP_hi kk (l := ds) (i := i) (by omega) (by rw [hn, hkk]; omega)
        rw [hn, hkk, e1, e2] at hp
        have hR := ih (n - k) (by omega) (sub ds k (n - k)) (c - k) (i - k) (sub_len (by omega)) (by omega) (by omega) (by omega)
        rw [show ((i - k : Nat) : Int) = (i : Int) - k from by omega] at hR
        have hRb := refRoot_ok (G := G) kk hG k (sub ds 0 k) c (sub_len (by omega)) (by omega) (by omega)
        have hQl := inclP_len kk (n - k) (sub ds k (n - k)) (i - k) (by rw [sub_len (by omega)]; exact Nat.le_refl _)
        rw [sub_len (by omega)] at hQl
        generalize inclP kk (sub ds k (n - k)) (i - k) = Q at *
        generalize rootI kk (sub ds 0 k) = x at *
        have hBh := behind_ok (G := G) Q x Q.length Q.length rfl (by omega) (Nat.le_refl _)
        generalize hq : Q.length = q at *
        repeat (first
          | ((with_reducible apply r_callN (e := [some (0, k * 32)]) (nid := 2) hR); rfl; rfl; rfl; rfl; rfl; rfl; rfl; refine ⟨⟨⟨rfl, rfl, by omega, by omega, by omega⟩, rfl, trivial⟩, ⟨emb_sub rfl (.inl rfl) (by omega) rfl, trivial⟩, rfl, rfl, rfl⟩; exact (show _ = slv 2 0 q q by kernel_rfl); exact (show _ = [dsR ds, hole, dsB Q] by kernel_rfl))
          | ((with_reducible apply r_callN (e := [some (0, 0)]) (nid := 0) hRb); rfl; rfl; rfl; rfl; rfl; rfl; rfl; refine ⟨⟨⟨rfl, rfl, by omega, by omega, by omega⟩, trivial⟩, ⟨emb_sub rfl (.inl rfl) (by omega) rfl, trivial⟩, rfl, rfl, rfl⟩; exact (rfl : _ = Value.agg _); exact (rfl : _ = _ :: _))
          | ((with_reducible apply r_callN (e := [some (2, 0)]) (nid := 1) hBh); rfl; rfl; rfl; rfl; rfl; rfl; rfl; refine ⟨⟨⟨rfl, rfl, by omega, by omega, by omega⟩, rfl, trivial⟩, ⟨emb_ds rfl, trivial⟩, rfl, rfl, rfl⟩; exact (show _ = slv 1 0 (q + 1) (q + 1) by kernel_rfl); exact (show _ = [dsR ds, dsB (Q ++ [x]), dsB Q] by kernel_rfl))
          | ((with_reducible apply r_slice); rfl; rfl; exact (rfl : _ = Value.slice (some ⟨_, _, _⟩) _ _); rfl; rfl; first | exact slice_hi (h := k) rfl rfl rfl (by omega) rfl | exact slice_lo (l := k) (sz := 32) (j := k * 32) (m := n - k) (c' := c - k) rfl rfl rfl rfl (by omega) (by omega) rfl (by omega) (by omega) (by omega))
          | ((with_reducible apply r_move); rfl; rfl; (first
          | exact (rfl : _ = Value.int _ _)
          | exact (rfl : _ = Value.slice _ _ _)))
          | ((with_reducible apply r_assign); rfl; rfl; (first
          | exact (rfl : _ = Value.int _ _)
          | exact (rfl : _ = Value.slice _ _ _)))
          | ((with_reducible apply r_bin); rfl; rfl; (exact (rfl : _ = Value.int _ _)); (exact (rfl : _ = Value.int _ _)); (first
          | with_reducible exact lss_f (by omega)
          | with_reducible exact eql_f (by omega)
          | with_reducible exact bin_sub rfl (by omega) (by omega)))
          | ((with_reducible apply r_len); rfl; rfl; (exact (rfl : _ = Value.slice _ _ _)); (exact (rfl : _ = some (Value.int _ _))))
          | ((with_reducible apply r_callP (hS)); rfl; rfl; rfl; rfl; rfl; (exact (rfl : _ = Value.int _ _)))
          | with_reducible refine r_doneN ?_
          | with_reducible refine c_reg ?_
          | with_reducible refine c_seq ?_
          | with_reducible refine c_skip ?_
          | with_reducible refine c_ret ?_
          | with_reducible refine x_then ?_
          | (with_reducible refine r_doneD (by kernel_rfl) ?_)
          | (with_reducible refine c_draw (by kernel_rfl) ?_)
          | ((with_reducible apply c_false); rfl))
        refine x_end ?_
        rw [hp]
        refine end_same (v := slv 1 0 (q + 1) (q + 1)) rfl rfl rfl ?_ ?_
        · simp [keptB, dsR, dsB]
        · exact ⟨rfl, Nat.zero_add _ ▸ rfl, by simp [hq], by simp [hq], by simp [hq]⟩
end Go.Flat
end
section
set_option linter.unusedVariables false
set_option maxRecDepth 20000
namespace Go.Flat
open Go.Proofs
variable {G : Glob}
def consR (kk : Nat → BitVec 32) (l : List D) (m : Nat) (kn : Bool) : List D := (consN kk l.length l m kn []).reverse
theorem consR_end (kk : Nat → BitVec 32) {l : List D} {m : Nat} (kn : Bool) (h : l.length ≤ m) : consR kk l m kn = if kn then [] else [rootI kk l] := by
  unfold consR
  cases e : l.length with
  | zero => unfold consN; cases kn <;> rfl
  | succ n => unfold consN; rw [if_pos h]; cases kn <;> rfl
theorem consR_lo (kk : Nat → BitVec 32) {l : List D} {m : Nat} (kn : Bool) (h1 : 1 ≤ m) (hm : m < l.length) (hi : m ≤ splitN l.length) : consR kk l m kn = consR kk (l.take (splitN l.length)) m kn ++ [rootI kk (l.drop (splitN l.length))] := by
  obtain ⟨s1, s2⟩ := splitN_pos (n := l.length) (by omega)
  unfold consR
  obtain ⟨f, hf⟩ : ∃ f, l.length = f + 1 := ⟨l.length - 1, by omega⟩
  conv => lhs; rw [hf]; unfold consN
  rw [if_neg (by omega)]
  dsimp only
  rw [show (splitF (l.length : Int)).toNat = splitN l.length from rfl, if_pos hi, consN_acc, consN_fuel kk f (l.take (splitN l.length)).length _ _ _ _ h1 (by simp; omega) (by omega)]
  simp
theorem consR_hi (kk : Nat → BitVec 32) {l : List D} {m : Nat} (kn : Bool) (hm : m < l.length) (hi : splitN l.length < m) : consR kk l m kn = consR kk (l.drop (splitN l.length)) (m - splitN l.length) false ++ [rootI kk (l.take (splitN l.length))] := by
  obtain ⟨s1, s2⟩ := splitN_pos (n := l.length) (by omega)
  unfold consR
  obtain ⟨f, hf⟩ : ∃ f, l.length = f + 1 := ⟨l.length - 1, by omega⟩
  conv => lhs; rw [hf]; unfold consN
  rw [if_neg (by omega)]
  dsimp only
  rw [show (splitF (l.length : Int)).toNat = splitN l.length from rfl, if_neg (by omega), consN_acc, consN_fuel kk f (l.drop (splitN l.length)).length _ _ _ _ (by omega) (by simp; omega) (by omega)]
  simp
theorem consR_len (kk : Nat → BitVec 32) : ∀ (f : Nat) (l : List D) (m : Nat) (kn : Bool), l.length ≤ f → 1 ≤ m → (consR kk l m kn).length ≤ l.length + 1
  | 0, l, m, kn, h, h1 => by rw [consR_end kk kn (by omega)]; cases kn <;> simp
  | f + 1, l, m, kn, h, h1 => by
    by_cases hm : l.length ≤ m
    · rw [consR_end kk kn hm]; cases kn <;> simp
    · obtain ⟨s1, s2⟩ := splitN_pos (n := l.length) (by omega)
      by_cases hi : m ≤ splitN l.length
      · rw [consR_lo kk kn h1 (by omega) hi, List.length_append]
        have := consR_len kk f (l.take (splitN l.length)) m kn (by simp; omega) h1
        simp at this ⊢; omega
      · rw [consR_hi kk kn (by omega) (by omega), List.length_append]
        have := consR_len kk f (l.drop (splitN l.length)) (m - splitN l.length) false (by simp; omega) (by omega)
        simp at this ⊢; omega
set_option maxHeartbeats 8000000 in
theorem refSub_ok (kk : Nat → BitVec 32) (hG : G 2 = some (rowE w32 64 kk)) : ∀ (n : Nat) (ds : List D) (c i : Nat) (kn : Bool), ds.length = n → n ≤ 999999 → n ≤ c → 1 ≤ i → i ≤ n →
    CallL Tryd.prog G 67 [slv 0 0 n c, .int .i64 (i : Nat), .bool kn] [dsR ds] (slv 1 0 (consR kk ds i kn).length (consR kk ds i kn).length) [dsR ds, dsB (consR kk ds i kn)] := by
  intro n
  induction n using Nat.strongRecOn with
  | ind n ih =>
    intro ds c i kn hn hb hc h1 hi
    refine walk (fn := Tryd.f67) (nt := 45) rfl rfl rfl rfl ?_
    refine c_hole 2 (H' := [dsR ds, hole, hole]) rfl ?_
    by_cases hin : i = n
    · have hp := consR_end kk (l := ds) (m := i) kn (by omega)
      rw [hp]
      cases kn with
      | true =>
        iterate 27 (first
          | ((with_reducible apply r_move); rfl; rfl; (first
          | exact (rfl : _ = Value.int _ _)
          | exact (rfl : _ = Value.bool _)
          | exact (rfl : _ = Value.slice _ _ _)))
          | ((with_reducible apply r_assign); rfl; rfl; (exact (rfl : _ = Value.slice _ _ _)))
          | ((with_reducible apply r_bin); rfl; rfl; (exact (rfl : _ = Value.int _ _)); (exact (rfl : _ = Value.int _ _)); (with_reducible exact eql_t (by omega)))
          | ((with_reducible apply r_len); rfl; rfl; (exact (rfl : _ = Value.slice _ _ _)); (exact (rfl : _ = some (Value.int _ _))))
          | with_reducible refine r_doneN ?_
          | with_reducible refine c_reg ?_
          | with_reducible refine c_seq ?_
          | with_reducible refine x_then ?_
          | ((with_reducible apply c_true); rfl))
        refine c_weak (Weak.nilTmp (i := 6) (b := 1) true 32 rfl (by decide) rfl) ?_
        repeat (first
          | with_reducible refine c_ret ?_
          | with_reducible refine x_thenR ?_)
        refine x_end ?_
        refine end_same (v := slv 1 0 0 0) rfl rfl rfl ?_ ?_
        · simp [keptB, dsR, dsB, newA]
        · exact ⟨rfl, rfl, rfl, Nat.le_refl _, Nat.le_refl _⟩
      | false =>
        have hR := refRoot_ok (G := G) kk hG n ds c hn (by omega) hc
        generalize rootI kk ds = x at *
        repeat (first
          | ((with_reducible apply r_callN (e := [some (0, 0)]) (nid := 0) hR); rfl; rfl; rfl; rfl; rfl; rfl; rfl; refine ⟨⟨⟨rfl, rfl, by omega, by omega, by omega⟩, trivial⟩, ⟨emb_ro rfl rfl (by show 0 + (dsC _).length ≤ (dsC _).length; omega) (dsC_whole _), trivial⟩, rfl, rfl, rfl⟩; exact (rfl : _ = Value.agg _); exact (rfl : _ = _ :: _))
          | ((with_reducible apply r_lit (nid := 1)); rfl; rfl; rfl; exact (rfl : _ = some (Value.slice _ _ _, _)); exact (show _ = [dsR ds, dsB [x], hole] by kernel_rfl))
          | ((with_reducible apply r_move); rfl; rfl; (first
          | exact (rfl : _ = Value.int _ _)
          | exact (rfl : _ = Value.bool _)
          | exact (rfl : _ = Value.slice _ _ _)))
          | ((with_reducible apply r_assign); rfl; rfl; (exact (rfl : _ = Value.slice _ _ _)))
          | ((with_reducible apply r_bin); rfl; rfl; (exact (rfl : _ = Value.int _ _)); (exact (rfl : _ = Value.int _ _)); (with_reducible exact eql_t (by omega)))
          | ((with_reducible apply r_len); rfl; rfl; (exact (rfl : _ = Value.slice _ _ _)); (exact (rfl : _ = some (Value.int _ _))))
          | with_reducible refine r_doneN ?_
          | with_reducible refine c_reg ?_
          | with_reducible refine c_seq ?_
          | with_reducible refine c_skip ?_
          | with_reducible refine c_ret ?_
          | with_reducible refine x_then ?_
          | with_reducible refine x_thenR ?_
          | ((with_reducible apply c_true); rfl)
          | ((with_reducible apply c_false); rfl))
        refine x_end ?_
        refine end_same (v := slv 1 0 1 1) rfl rfl rfl ?_ ?_
        · simp [keptB, dsR, dsB]
        · exact ⟨rfl, rfl, rfl, Nat.le_refl _, Nat.le_refl _⟩
    · obtain ⟨s1, s2, s3⟩ := splitF_pos (n := n) (by omega)
      have hS := refSplit_ok (G := G) (n : Int) (by omega) (by omega)
      rw [s3] at hS
      have hkk : splitN n = (splitF (n : Int)).toNat := rfl
      generalize (splitF (n : Int)).toNat = k at *
      have e1 : ds.take k = sub ds 0 k := by simp [sub]
      have e2 : ds.drop k = sub ds k (n - k) := by unfold sub; rw [List.take_of_length_le (by simp; omega)]
      by_cases hik : i ≤ k
      · have hp := consR_lo kk (l := ds) (m := i) kn h1 (by omega) (by rw [hn, hkk]; exact hik)
        rw [hn, hkk, e1, e2] at hp
        have hR := ih k (by omega) (sub ds 0 k) c i kn (sub_len (by omega)) (by omega) (by omega) h1 hik
        have hRb := refRoot_ok (G := G) kk hG (n - k) (sub ds k (n - k)) (c - k) (sub_len (by omega)) (by omega) (by omega)
        have hQl := consR_len kk k (sub ds 0 k) i kn (by rw [sub_len (by omega)]; exact Nat.le_refl _) h1
        rw [sub_len (by omega)] at hQl
        generalize consR kk (sub ds 0 k) i kn = Q at *
        generalize rootI kk (sub ds k (n - k)) = x at *
        have hBh := behind_ok (G := G) Q x Q.length Q.length rfl (by omega) (Nat.le_refl _)
        generalize hq : Q.length = q at *
        repeat (first
          | ((with_reducible apply r_callN (e := [some (0, 0)]) (nid := 2) hR); rfl; rfl; rfl; rfl; rfl; rfl; rfl; refine ⟨⟨⟨rfl, rfl, by omega, by omega, by omega⟩, rfl, rfl, trivial⟩, ⟨emb_sub rfl (.inl rfl) (by omega) rfl, trivial⟩, rfl, rfl, rfl⟩; exact (show _ = slv 2 0 q q by kernel_rfl); exact (show _ = [dsR ds, hole, dsB Q] by kernel_rfl))
          | ((with_reducible apply r_callN (e := [some (0, k * 32)]) (nid := 0) hRb); rfl; rfl; rfl; rfl; rfl; rfl; rfl; refine ⟨⟨⟨rfl, rfl, by omega, by omega, by omega⟩, trivial⟩, ⟨emb_sub rfl (.inl rfl) (by omega) rfl, trivial⟩, rfl, rfl, rfl⟩; exact (rfl : _ = Value.agg _); exact (rfl : _ = _ :: _))
          | ((with_reducible apply r_callN (e := [some (2, 0)]) (nid := 1) hBh); rfl; rfl; rfl; rfl; rfl; rfl; rfl; refine ⟨⟨⟨rfl, rfl, by omega, by omega, by omega⟩, rfl, trivial⟩, ⟨emb_ds rfl, trivial⟩, rfl, rfl, rfl⟩; exact (show _ = slv 1 0 (q + 1) (q + 1) by kernel_rfl); exact (show _ = [dsR ds, dsB (Q ++ [x]), dsB Q] by kernel_rfl))
          | ((with_reducible apply r_slice); rfl; rfl; exact (rfl : _ = Value.slice (some ⟨_, _, _⟩) _ _); rfl; rfl; first | exact slice_hi (h := k) rfl rfl rfl (by omega) rfl | exact slice_lo (l := k) (sz := 32) (j := k * 32) (m := n - k) (c' := c - k) rfl rfl rfl rfl (by omega) (by omega) rfl (by omega) (by omega) (by omega))
          | ((with_reducible apply r_move); rfl; rfl; (first
          | exact (rfl : _ = Value.int _ _)
          | exact (rfl : _ = Value.bool _)
          | exact (rfl : _ = Value.slice _ _ _)))
          | ((with_reducible apply r_assign); rfl; rfl; (first
          | exact (rfl : _ = Value.int _ _)
          | exact (rfl : _ = Value.slice _ _ _)))
          | ((with_reducible apply r_bin); rfl; rfl; (exact (rfl : _ = Value.int _ _)); (exact (rfl : _ = Value.int _ _)); (first
          | with_reducible exact leq_t (by omega)
          | with_reducible exact eql_f (by omega)))
          | ((with_reducible apply r_len); rfl; rfl; (exact (rfl : _ = Value.slice _ _ _)); (exact (rfl : _ = some (Value.int _ _))))
          | ((with_reducible apply r_callP (hS)); rfl; rfl; rfl; rfl; rfl; (exact (rfl : _ = Value.int _ _)))
          | with_reducible refine r_doneN ?_
          | with_reducible refine c_reg ?_
          | with_reducible refine c_seq ?_
          | with_reducible refine c_skip ?_
          | with_reducible refine c_ret ?_
          | with_reducible refine x_then ?_
          | with_reducible refine x_thenR ?_
          | (with_reducible refine r_doneD (by kernel_rfl) ?_)
          | (with_reducible refine c_draw (by kernel_rfl) ?_)
          | ((with_reducible apply c_true); rfl)
          | ((with_reducible apply c_false); rfl))
        refine x_end ?_
        rw [hp]
        refine end_same (v := slv 1 0 (q + 1) (q + 1)) rfl rfl rfl ?_ ?_
        · simp [keptB, dsR, dsB]
        · exact ⟨rfl, Nat.zero_add _ ▸ rfl, by simp [hq], by simp [hq], by simp [hq]⟩
      · have hp := consR_hi kk (l := ds) (m := i) kn (by omega) (by rw [hn, hkk]; omega)
        rw [hn, hkk, e1, e2] at hp
        have hR := ih (n - k) (by omega) (sub ds k (n - k)) (c - k) (i - k) false (sub_len (by omega)) (by omega) (by omega) (by omega) (by omega)
        rw [show ((i - k : Nat) : Int) = (i : Int) - k from by omega] at hR
        have hRb := refRoot_ok (G := G) kk hG k (sub ds 0 k) c (sub_len (by omega)) (by omega) (by omega)
        have hQl := consR_len kk (n - k) (sub ds k (n - k)) (i - k) false (by rw [sub_len (by omega)]; exact Nat.le_refl _) (by omega)
        rw [sub_len (by omega)] at hQl
        generalize consR kk (sub ds k (n - k)) (i - k) false = Q at *
        generalize rootI kk (sub ds 0 k) = x at *
        have hBh := behind_ok (G := G) Q x Q.length Q.length rfl (by omega) (Nat.le_refl _)
        generalize hq : Q.length = q at *
        repeat (first
          | ((with_reducible apply r_callN (e := [some (0, k * 32)]) (nid := 2) hR); rfl; rfl; rfl; rfl; rfl; rfl; rfl; refine ⟨⟨⟨rfl, rfl, by omega, by omega, by omega⟩, rfl, rfl, trivial⟩, ⟨emb_sub rfl (.inl rfl) (by omega) rfl, trivial⟩, rfl, rfl, rfl⟩; exact (show _ = slv 2 0 q q by kernel_rfl); exact (show _ = [dsR ds, hole, dsB Q] by kernel_rfl))
          | ((with_reducible apply r_callN (e := [some (0, 0)]) (nid := 0) hRb); rfl; rfl; rfl; rfl; rfl; rfl; rfl; refine ⟨⟨⟨rfl, rfl, by omega, by omega, by omega⟩, trivial⟩, ⟨emb_sub rfl (.inl rfl) (by omega) rfl, trivial⟩, rfl, rfl, rfl⟩; exact (rfl : _ = Value.agg _); exact (rfl : _ = _ :: _))
          | ((with_reducible apply r_callN (e := [some (2, 0)]) (nid := 1) hBh); rfl; rfl; rfl; rfl; rfl; rfl; rfl; refine ⟨⟨⟨rfl, rfl, by omega, by omega, by omega⟩, rfl, trivial⟩, ⟨emb_ds rfl, trivial⟩, rfl, rfl, rfl⟩; exact (show _ = slv 1 0 (q + 1) (q + 1) by kernel_rfl); exact (show _ = [dsR ds, dsB (Q ++ [x]), dsB Q] by kernel_rfl))
          | ((with_reducible apply r_slice); rfl; rfl; exact (rfl : _ = Value.slice (some ⟨_, _, _⟩) _ _); rfl; rfl; first | exact slice_hi (h := k) rfl rfl rfl (by omega) rfl | exact slice_lo (l := k) (sz := 32) (j := k * 32) (m := n - k) (c' := c - k) rfl rfl rfl rfl (by omega) (by omega) rfl (by omega) (by omega) (by omega))
          | ((with_reducible apply r_move); rfl; rfl; (first
          | exact (rfl : _ = Value.int _ _)
          | exact (rfl : _ = Value.slice _ _ _)))
          | ((with_reducible apply r_assign); rfl; rfl; (first
          | exact (rfl : _ = Value.int _ _)
          | exact (rfl : _ = Value.slice _ _ _)))
          | ((with_reducible apply r_bin); rfl; rfl; (exact (rfl : _ = Value.int _ _)); (exact (rfl : _ = Value.int _ _)); (first
          | with_reducible exact leq_f (by omega)
          | with_reducible exact eql_f (by omega)
          | with_reducible exact bin_sub rfl (by omega) (by omega)))
          | ((with_reducible apply r_len); rfl; rfl; (exact (rfl : _ = Value.slice _ _ _)); (exact (rfl : _ = some (Value.int _ _))))
          | ((with_reducible apply r_callP (hS)); rfl; rfl; rfl; rfl; rfl; (exact (rfl : _ = Value.int _ _)))
          | with_reducible refine r_doneN ?_
          | with_reducible refine c_reg ?_
          | with_reducible refine c_seq ?_
          | with_reducible refine c_skip ?_
          | with_reducible refine c_ret ?_
          | with_reducible refine x_then ?_
          | (with_reducible refine r_doneD (by kernel_rfl) ?_)
          | (with_reducible refine c_draw (by kernel_rfl) ?_)
          | ((with_reducible apply c_false); rfl))
        refine x_end ?_
        rw [hp]
        refine end_same (v := slv 1 0 (q + 1) (q + 1)) rfl rfl rfl ?_ ?_
        · simp [keptB, dsR, dsB]
        · exact ⟨rfl, Nat.zero_add _ ▸ rfl, by simp [hq], by simp [hq], by simp [hq]⟩
theorem refCons_ok (kk : Nat → BitVec 32) (hG : G 2 = some (rowE w32 64 kk)) (n : Nat) (ds : List D) (c i : Nat) (hn : ds.length = n) (hb : n ≤ 999999) (hc : n ≤ c) (h1 : 1 ≤ i) (hi : i ≤ n) :
    CallL Tryd.prog G 40 [slv 0 0 n c, .int .i64 (i : Nat)] [dsR ds] (slv 1 0 (consP kk ds i).length (consP kk ds i).length) [dsR ds, dsB (consP kk ds i)] := by
  refine walk (fn := Tryd.f40) (nt := 10) rfl rfl rfl rfl ?_
  refine c_hole 1 (H' := [dsR ds, hole]) rfl ?_
  have hR := refSub_ok (G := G) kk hG n ds c i true hn hb hc h1 hi
  change CallL Tryd.prog G 67 _ _ (slv 1 0 (consP kk ds i).length (consP kk ds i).length) [dsR ds, dsB (consP kk ds i)] at hR
  generalize consP kk ds i = Q at *
  generalize hq : Q.length = q at *
  repeat (first
    | ((with_reducible apply r_callN (e := [some (0, 0)]) (nid := 1) hR); rfl; rfl; rfl; rfl; rfl; rfl; rfl; refine ⟨⟨⟨rfl, rfl, by omega, by omega, by omega⟩, rfl, rfl, trivial⟩, ⟨emb_ro rfl rfl (by show 0 + (dsC _).length ≤ (dsC _).length; omega) (dsC_whole _), trivial⟩, rfl, rfl, rfl⟩; exact (show _ = slv 1 0 q q by kernel_rfl); exact (show _ = [dsR ds, dsB Q] by kernel_rfl))
    | ((with_reducible apply r_move); rfl; rfl; (first
    | exact (rfl : _ = Value.int _ _)
    | exact (rfl : _ = Value.slice _ _ _)))
    | ((with_reducible apply r_assign); rfl; rfl; (exact (rfl : _ = Value.slice _ _ _)))
    | ((with_reducible apply r_bin); rfl; rfl; (exact (rfl : _ = Value.int _ _)); (exact (rfl : _ = Value.int _ _)); (with_reducible exact eql_f (by omega)))
    | with_reducible refine r_doneN ?_
    | with_reducible refine c_reg ?_
    | with_reducible refine c_seq ?_
    | with_reducible refine c_skip ?_
    | with_reducible refine c_ret ?_
    | with_reducible refine x_then ?_
    | ((with_reducible apply c_false); rfl))
  refine x_end ?_
  refine end_same (v := slv 1 0 q q) rfl rfl rfl ?_ ?_
  · simp [keptB, dsR, dsB]
  · exact ⟨rfl, Nat.zero_add _ ▸ rfl, rfl, Nat.le_refl _, Nat.le_refl _⟩
theorem refCons_zero (kk : Nat → BitVec 32) (n : Nat) (ds : List D) (c : Nat) (hn : ds.length = n) :
    CallL Tryd.prog G 40 [slv 0 0 n c, .int .i64 0] [dsR ds] nilS [dsR ds] := by
  refine walk (fn := Tryd.f40) (nt := 10) rfl rfl rfl rfl ?_
  repeat (first
    | ((with_reducible apply r_move); rfl; rfl; (exact (rfl : _ = Value.int _ _)))
    | ((with_reducible apply r_assign); rfl; rfl; (exact (rfl : _ = Value.slice _ _ _)))
    | ((with_reducible apply r_bin); rfl; rfl; (exact (rfl : _ = Value.int _ _)); (exact (rfl : _ = Value.int _ _)); (with_reducible exact eql_t (by omega)))
    | with_reducible refine r_doneN ?_
    | with_reducible refine c_reg ?_
    | with_reducible refine c_seq ?_
    | with_reducible refine c_ret ?_
    | with_reducible refine x_then ?_
    | with_reducible refine x_thenR ?_
    | ((with_reducible apply c_true); rfl))
  refine x_end ?_
  exact end_same (v := nilS) rfl rfl rfl (dsR_kept ds) rfl
end Go.Flat
end
