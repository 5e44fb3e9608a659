/- Walks of the sum and of the tree's functions: what each computes, for every input within the bounds that each theorem names. -/
import Derived.Test.YthfklplpfbmkgaaDoorFlatC
import Derived.Test.YthfklplpfbmkgaaDoorProg
section
set_option maxRecDepth 20000
namespace Go.Flat
open Go.Proofs
variable {G : Glob}
def rot (x : BitVec 32) (n : Nat) : BitVec 32 := x <<< n ||| x >>> (32 - n)

theorem and31 (k : Int) : (BitVec.ofInt 64 k &&& BitVec.ofInt 64 31).toNat = (k % 32).toNat := by
  have h31 : (BitVec.ofInt 64 31).toNat = 2 ^ 5 - 1 := rfl
  rw [BitVec.toNat_and, h31, Nat.and_two_pow_sub_one_eq_mod, BitVec.toNat_ofInt]
  omega
theorem rotl_ok (x : BitVec 32) (k : Int) : CallL Tryd.prog G 75 [w32 x, .int .i64 k] [] (w32 (rot x (k % 32).toNat)) [] := by
  refine walk (fn := Tryd.f75) (nt := 17) rfl rfl rfl rfl ?_
  repeat (first
    | ((with_reducible apply r_move); rfl; rfl; (exact (rfl : _ = Value.int _ _)))
    | ((with_reducible apply r_assign); rfl; rfl; (exact (rfl : _ = Value.int _ _)))
    | ((with_reducible apply r_bin); rfl; rfl; (exact (rfl : _ = Value.int _ _)); (exact (rfl : _ = Value.int _ _)); (first
    | with_reducible exact or32 (by first | exact ofI _ _ | rfl) (by first | exact ofI _ _ | rfl)
    | with_reducible exact shl32 (by first | exact ofI _ _ | rfl) (by omega)
    | with_reducible exact shr32 (by omega)
    | with_reducible exact and64 (by first | exact ofI _ _ | rfl) (by first | exact ofI _ _ | rfl)
    | with_reducible exact sub64 (by first | exact ofI _ _ | rfl) (by first | exact ofI _ _ | rfl)))
    | ((with_reducible apply r_conv); rfl; rfl; (exact (rfl : _ = Value.int _ _)); (exact conv64 rfl rfl (by first | exact ofI_set _ | rfl)))
    | with_reducible refine r_doneN ?_
    | with_reducible refine c_reg ?_
    | with_reducible refine c_seq ?_
    | with_reducible refine c_ret ?_
    | with_reducible refine x_then ?_)
  refine x_end ?_
  refine end_pv (v := .int _ _) rfl rfl ?_
  have h2 : (BitVec.ofInt 64 32 - (BitVec.ofInt 64 k &&& BitVec.ofInt 64 31)).toNat = 32 - (k % 32).toNat := by
    have h3 := and31 k
    have h32 : (BitVec.ofInt 64 32).toNat = 32 := rfl
    rw [BitVec.toNat_sub, h3, h32]
    omega
  simp only [Int.toNat_natCast, h2, and31, rot]
def three3 (x : BitVec 32) (a b : Int) (z : BitVec 32) : BitVec 32 := rot x ((0 - a) % 32).toNat ^^^ rot x ((0 - b) % 32).toNat ^^^ z
theorem three_ok (x : BitVec 32) (a b : Int) (z : BitVec 32) (ha : 0 ≤ a ∧ a ≤ 32) (hb : 0 ≤ b ∧ b ≤ 32) : CallL Tryd.prog G 74 [w32 x, .int .i64 a, .int .i64 b, w32 z] [] (w32 (three3 x a b z)) [] := by
  refine walk (fn := Tryd.f74) (nt := 20) rfl rfl rfl rfl ?_
  repeat (first
    | ((with_reducible apply r_move); rfl; rfl; (exact (rfl : _ = Value.int _ _)))
    | ((with_reducible apply r_assign); rfl; rfl; (exact (rfl : _ = Value.int _ _)))
    | ((with_reducible apply r_bin); rfl; rfl; (exact (rfl : _ = Value.int _ _)); (exact (rfl : _ = Value.int _ _)); (with_reducible exact xor32 (by first | exact ofI _ _ | rfl) (by first | exact ofI _ _ | rfl)))
    | ((with_reducible apply r_un); rfl; rfl; (exact (rfl : _ = Value.int _ _)); (exact un_neg rfl (by omega) (by omega)))
    | ((with_reducible apply r_callP (rotl_ok _ _)); rfl; rfl; rfl; rfl; rfl; (exact (rfl : _ = Value.int _ _)))
    | with_reducible refine r_doneN ?_
    | with_reducible refine c_reg ?_
    | with_reducible refine c_seq ?_
    | with_reducible refine c_ret ?_
    | with_reducible refine x_then ?_)
  refine x_end ?_
  exact end_pv (v := .int _ _) rfl rfl rfl
end Go.Flat
end
section
set_option linter.unusedVariables false
set_option linter.unusedSimpArgs false
set_option maxRecDepth 20000
namespace Go.Flat
open Go.Proofs
variable {G : Glob}
def inB (w : Nat → BitVec 32) (i : Nat) (x : BitVec 8) : Nat → BitVec 32 := updN w (i / 4) (w (i / 4) <<< 8 ||| x.setWidth 32)
def inBs (b : Nat → BitVec 8) : Nat → Nat → BitVec 32
  | 0 => fun _ => 0
  | i + 1 => inB (inBs b i) i (b i)
def sha3p (k : BitVec 32) (v w : Nat → BitVec 32) (t : Nat) : BitVec 32 := v 7 + three3 (v 4) 6 11 (rot (v 4) ((-25 : Int) % 32).toNat) + (v 6 ^^^ (v 4 &&& (v 5 ^^^ v 6))) + k + w (t % 16)
def sha3q (v : Nat → BitVec 32) : BitVec 32 := three3 (v 0) 2 13 (rot (v 0) ((-22 : Int) % 32).toNat) + ((v 0 &&& v 1) ^^^ (v 0 &&& v 2) ^^^ (v 1 &&& v 2))
def sha3v (p q : BitVec 32) (v : Nat → BitVec 32) : Nat → BitVec 32 := fun k => if k = 0 then p + q else if k = 4 then v 3 + p else v (k - 1)
def sha3w (w : Nat → BitVec 32) (t : Nat) : Nat → BitVec 32 := updN w (t % 16) (w (t % 16) + (w ((t + 9) % 16) + three3 (w ((t + 1) % 16)) 7 18 (w ((t + 1) % 16) >>> 3) + three3 (w ((t + 14) % 16)) 17 19 (w ((t + 14) % 16) >>> 10)))
def shaT (kk : Nat → BitVec 32) (v w : Nat → BitVec 32) : Nat → (Nat → BitVec 32) × (Nat → BitVec 32)
  | 0 => (v, w)
  | t + 1 => let p := shaT kk v w t; (sha3v (sha3p (kk t) p.1 p.2 t) (sha3q p.1) p.1, sha3w p.2 t)
def addV (v V : Nat → BitVec 32) : Nat → Nat → BitVec 32
  | 0 => v
  | i + 1 => updN (addV v V i) i (addV v V i i + V i)
def rndV (kk : Nat → BitVec 32) (v : Nat → BitVec 32) (b : Nat → BitVec 8) : Nat → BitVec 32 := addV v (shaT kk v (inBs b 64) 64).1 8

abbrev pt (b o : Nat) : Value := .pointer (some ⟨b, o, none⟩)
abbrev sl (b o n c : Nat) : Value := .slice (some ⟨b, o, none⟩) n c
def stB (v : Nat → BitVec 32) (r n : Value) : Blk := { cells := rowE w32 8 v ++ [r, n], sz := 10, wr := true, fix := true, mv := false, pur := false }
def byB (n : Nat) (b : Nat → BitVec 8) : Blk := { cells := rowE w8 n b, sz := 1, wr := false, fix := false, mv := true, pur := true }
def wB (w : Nat → BitVec 32) : Blk := { cells := rowE w32 16 w, sz := 16, wr := true, fix := true, mv := false, pur := true }
def vB (v : Nat → BitVec 32) : Blk := { cells := rowE w32 8 v, sz := 8, wr := true, fix := true, mv := false, pur := true }

set_option maxHeartbeats 4000000 in
theorem round_ok (kk : Nat → BitVec 32) (hG : G 0 = some (rowE w32 64 kk)) (v : Nat → BitVec 32) (b : Nat → BitVec 8) (m c c' : Nat) (n : BitVec 64) :
    CallL Tryd.prog G 69 [pt 0 0, sl 1 0 64 c'] [stB v (sl 1 0 m c) (w64 n), byB 64 b] (.tuple #[]) [stB (rndV kk v b) (sl 1 0 m c) (w64 n), byB 64 b] := by
  refine walk (fn := Tryd.f69) (nt := 156) rfl rfl rfl rfl ?_
  refine c_hole 2 (H' := [stB v (sl 1 0 m c) (w64 n), byB 64 b, hole, hole]) rfl ?_
  repeat (first
    | ((with_reducible apply r_move); rfl; rfl; (first
    | exact (rfl : _ = Value.int _ _)
    | exact (rfl : _ = Value.slice _ _ _)))
    | ((with_reducible apply r_len); rfl; rfl; (exact (rfl : _ = Value.slice _ _ _)); (exact (rfl : _ = some (Value.int _ _))))
    | ((with_reducible apply r_alloc (nid := 2)); rfl; rfl; rfl; exact (rfl : _ = _ :: _))
    | with_reducible refine r_doneN ?_
    | with_reducible refine c_reg ?_
    | with_reducible refine c_seq ?_
    | with_reducible refine c_block ?_
    | with_reducible refine x_then ?_)
  refine c_loopN (fun i => [pt 0 0, sl 1 0 64 c', dead, dead, pt 2 0] ++ List.replicate 13 dead ++ [sl 1 0 64 c', .int .i64 64, .int .i64 (i : Nat)]) (fun i : Nat => [stB v (sl 1 0 m c) (w64 n), byB 64 b, wB (inBs b i), hole]) (fun i => i ≤ 64) (fun i => 64 - i) 0 (by omega) ?_ ?_
  · refine weak_to (n := 4) rfl ?_ rfl ?_
    repeat (first | exact trivial | refine ⟨.inl rfl, ?_⟩ | refine ⟨.inr ⟨rfl, rfl⟩, ?_⟩)
    · rfl
  · intro i hi
    by_cases hlt : i < 64
    repeat (first
      | ((with_reducible apply r_idxA (j := i / 4)); rfl; rfl; exact (rfl : _ = Value.pointer (some ⟨_, _, _⟩)); (exact (rfl : _ = Value.int _ _)); (exact (rfl : _ = some (_, 1))); omega; omega; omega)
      | ((with_reducible apply r_idxS (j := i)); rfl; rfl; exact (rfl : _ = Value.slice (some ⟨_, _, _⟩) _ _); (exact (rfl : _ = Value.int _ _)); (exact (rfl : _ = some (_, 1))); omega; omega; omega)
      | ((with_reducible apply r_move); rfl; rfl; (exact (rfl : _ = Value.int _ _)))
      | ((with_reducible apply r_assign); rfl; rfl; (exact (rfl : _ = Value.int _ _)))
      | ((with_reducible apply r_bin); rfl; rfl; (exact (rfl : _ = Value.int _ _)); (exact (rfl : _ = Value.int _ _)); (first
      | with_reducible exact lss_t (by omega)
      | with_reducible exact bin_add rfl (by omega) (by omega)
      | with_reducible exact or32 (by first | exact ofI _ _ | rfl) (by first | exact ofI _ _ | rfl)
      | with_reducible exact shl32 (by first | exact ofI _ _ | rfl) (by omega)
      | with_reducible exact quo_i (by omega) (by omega) (by omega)))
      | ((with_reducible apply r_conv); rfl; rfl; (exact (rfl : _ = Value.int _ _)); (exact conv32 rfl rfl (by first | exact ofI_set _ | rfl)))
      | ((with_reducible apply r_load); rfl; rfl; exact (rfl : _ = Value.pointer (some ⟨_, _, _⟩)); (exact loadA_row rfl rfl rfl (by omega) (fun _ => rfl)))
      | ((with_reducible apply r_store); rfl; exact (rfl : _ = Value.pointer (some ⟨_, _, _⟩)); (exact (rfl : _ = Value.int _ _)); (exact storeD_row rfl rfl rfl rfl rfl (by omega) rfl rfl); exact (rfl : _ = _ :: _))
      | with_reducible refine r_doneN ?_
      | with_reducible refine c_reg ?_
      | with_reducible refine c_seq ?_
      | with_reducible refine c_block ?_
      | with_reducible refine c_skip ?_
      | with_reducible refine x_then ?_
      | with_reducible refine x_blockN ?_
      | ((with_reducible apply c_true); rfl))
    refine x_round ⟨i + 1, by omega, by omega, ?_⟩
    refine weak_to (n := 4) rfl ?_ ?_ ?_ <;> try rfl
    repeat (first | exact trivial | refine ⟨.inl rfl, ?_⟩ | refine ⟨.inr ⟨rfl, rfl⟩, ?_⟩)
    · obtain rfl : i = 64 := by omega
      repeat (first
        | ((with_reducible apply r_load); rfl; rfl; exact (rfl : _ = Value.pointer (some ⟨_, _, _⟩)); exact loadA_glob rfl hG rfl)
        | ((with_reducible apply r_move); rfl; rfl; (first
        | exact (rfl : _ = Value.int _ _)
        | exact (rfl : _ = Value.pointer (some _))))
        | ((with_reducible apply r_bin); rfl; rfl; (exact (rfl : _ = Value.int _ _)); (exact (rfl : _ = Value.int _ _)); (with_reducible exact lss_f (by omega)))
        | ((with_reducible apply r_nilCheck); rfl; rfl; exact (rfl : _ = Value.pointer (some ⟨_, _, _⟩)); (exact (rfl : _ = some (Value.pointer (some _)))))
        | ((with_reducible apply r_fieldAddr); rfl; rfl; exact (rfl : _ = Value.pointer (some ⟨_, _, _⟩)); (exact (rfl : _ = some 0)); (exact Nat.zero_add _))
        | ((with_reducible apply r_load); rfl; rfl; exact (rfl : _ = Value.pointer (some ⟨_, _, _⟩)); (exact (rfl : _ = some (Value.agg _))))
        | ((with_reducible apply r_store); rfl; exact (rfl : _ = Value.pointer (some ⟨_, _, _⟩)); (exact (rfl : _ = Value.agg _)); (rfl); exact (rfl : _ = _ :: _))
        | ((with_reducible apply r_alloc (nid := 3)); rfl; rfl; rfl; exact (rfl : _ = _ :: _))
        | with_reducible refine r_doneN ?_
        | with_reducible refine c_reg ?_
        | with_reducible refine c_seq ?_
        | with_reducible refine c_block ?_
        | with_reducible refine c_exit ?_
        | with_reducible refine x_then ?_
        | with_reducible refine x_thenE ?_
        | with_reducible refine x_leaveE ?_
        | ((with_reducible apply c_false); rfl)
        | ((with_reducible apply x_block); rfl))
      refine c_loopN (fun x => [pt 0 0, dead, dead, dead, pt 2 0, dead, dead, pt 3 0] ++ List.replicate 33 dead ++ [.agg (rowE w32 64 kk).toArray, .int .i64 (x : Nat)])
        (fun t : Nat => [stB v (sl 1 0 m c) (w64 n), byB 64 b, wB (shaT kk v (inBs b 64) t).2, vB (shaT kk v (inBs b 64) t).1]) (fun t => t ≤ 64) (fun t => 64 - t) 0 (by omega) ?_ ?_
      · refine weak_to (n := 4) rfl ?_ rfl rfl
        repeat (first | exact trivial | refine ⟨.inl rfl, ?_⟩ | refine ⟨.inr ⟨rfl, rfl⟩, ?_⟩)
      · intro t ht
        by_cases hlt : t < 64
        · generalize hv : (shaT kk v (inBs b 64) t).1 = vt
          generalize hw : (shaT kk v (inBs b 64) t).2 = wt
          repeat (first
            | ((with_reducible apply r_index); rfl; rfl; (exact (rfl : _ = Value.agg _)); (exact (rfl : _ = Value.int _ _)); exact indexV_row (i := t) rfl rfl (by omega) (by omega) (by omega) (fun _ => rfl))
            | ((with_reducible apply r_idxA (j := t % 16)); rfl; rfl; exact (rfl : _ = Value.pointer (some ⟨_, _, _⟩)); (exact (rfl : _ = Value.int _ _)); (exact (rfl : _ = some (_, 1))); omega; omega; omega)
            | ((with_reducible apply r_idxA (j := (t + 1) % 16)); rfl; rfl; exact (rfl : _ = Value.pointer (some ⟨_, _, _⟩)); (exact (rfl : _ = Value.int _ _)); (exact (rfl : _ = some (_, 1))); omega; omega; omega)
            | ((with_reducible apply r_idxA (j := (t + 14) % 16)); rfl; rfl; exact (rfl : _ = Value.pointer (some ⟨_, _, _⟩)); (exact (rfl : _ = Value.int _ _)); (exact (rfl : _ = some (_, 1))); omega; omega; omega)
            | ((with_reducible apply r_idxA (j := (t + 9) % 16)); rfl; rfl; exact (rfl : _ = Value.pointer (some ⟨_, _, _⟩)); (exact (rfl : _ = Value.int _ _)); (exact (rfl : _ = some (_, 1))); omega; omega; omega)
            | ((with_reducible apply r_idxA (j := 0)); rfl; rfl; exact (rfl : _ = Value.pointer (some ⟨_, _, _⟩)); (exact (rfl : _ = Value.int _ _)); (exact (rfl : _ = some (_, 1))); omega; omega; omega)
            | ((with_reducible apply r_idxA (j := 1)); rfl; rfl; exact (rfl : _ = Value.pointer (some ⟨_, _, _⟩)); (exact (rfl : _ = Value.int _ _)); (exact (rfl : _ = some (_, 1))); omega; omega; omega)
            | ((with_reducible apply r_idxA (j := 2)); rfl; rfl; exact (rfl : _ = Value.pointer (some ⟨_, _, _⟩)); (exact (rfl : _ = Value.int _ _)); (exact (rfl : _ = some (_, 1))); omega; omega; omega)
            | ((with_reducible apply r_idxA (j := 4)); rfl; rfl; exact (rfl : _ = Value.pointer (some ⟨_, _, _⟩)); (exact (rfl : _ = Value.int _ _)); (exact (rfl : _ = some (_, 1))); omega; omega; omega)
            | ((with_reducible apply r_idxA (j := 5)); rfl; rfl; exact (rfl : _ = Value.pointer (some ⟨_, _, _⟩)); (exact (rfl : _ = Value.int _ _)); (exact (rfl : _ = some (_, 1))); omega; omega; omega)
            | ((with_reducible apply r_idxA (j := 6)); rfl; rfl; exact (rfl : _ = Value.pointer (some ⟨_, _, _⟩)); (exact (rfl : _ = Value.int _ _)); (exact (rfl : _ = some (_, 1))); omega; omega; omega)
            | ((with_reducible apply r_idxA (j := 7)); rfl; rfl; exact (rfl : _ = Value.pointer (some ⟨_, _, _⟩)); (exact (rfl : _ = Value.int _ _)); (exact (rfl : _ = some (_, 1))); omega; omega; omega)
            | ((with_reducible apply r_move); rfl; rfl; (exact (rfl : _ = Value.int _ _)))
            | ((with_reducible apply r_assign); rfl; rfl; (exact (rfl : _ = Value.int _ _)))
            | ((with_reducible apply r_bin); rfl; rfl; (exact (rfl : _ = Value.int _ _)); (exact (rfl : _ = Value.int _ _)); (first
            | with_reducible exact lss_t (by omega)
            | with_reducible exact bin_add rfl (by omega) (by omega)
            | with_reducible exact add32 (by first | exact ofI _ _ | rfl) (by first | exact ofI _ _ | rfl)
            | with_reducible exact and32 (by first | exact ofI _ _ | rfl) (by first | exact ofI _ _ | rfl)
            | with_reducible exact shr32 (by omega)
            | with_reducible exact xor32 (by first | exact ofI _ _ | rfl) (by first | exact ofI _ _ | rfl)
            | with_reducible exact rem_p (by omega) (by omega)))
            | ((with_reducible apply r_slice); rfl; rfl; (exact (rfl : _ = Value.pointer (some _))); rfl; rfl; (exact (rfl : _ = some (Value.slice (some ⟨_, _, _⟩) _ _))))
            | ((with_reducible apply r_copy); rfl; rfl; (exact (rfl : _ = Value.slice _ _ _)); (exact (rfl : _ = Value.slice _ _ _)); exact (rfl : _ = some (Value.int _ _, _, _)); exact (rfl : _ = _ :: _))
            | ((with_reducible apply r_load); rfl; rfl; exact (rfl : _ = Value.pointer (some ⟨_, _, _⟩)); (first
            | exact loadA_row rfl rfl rfl (by omega) (fun _ => rfl)
            | exact (rfl : _ = some (Value.int _ _))))
            | ((with_reducible apply r_store); rfl; exact (rfl : _ = Value.pointer (some ⟨_, _, _⟩)); (exact (rfl : _ = Value.int _ _)); (first
            | exact storeD_row rfl rfl rfl rfl rfl (by omega) rfl rfl
            | rfl); exact (rfl : _ = _ :: _))
            | ((with_reducible apply r_callP (rotl_ok _ _)); rfl; rfl; rfl; rfl; rfl; (exact (rfl : _ = Value.int _ _)))
            | ((with_reducible apply r_callP (three_ok _ 6 11 _ (by decide) (by decide))); rfl; rfl; rfl; rfl; rfl; (exact (rfl : _ = Value.int _ _)))
            | ((with_reducible apply r_callP (three_ok _ 2 13 _ (by decide) (by decide))); rfl; rfl; rfl; rfl; rfl; (exact (rfl : _ = Value.int _ _)))
            | ((with_reducible apply r_callP (three_ok _ 7 18 _ (by decide) (by decide))); rfl; rfl; rfl; rfl; rfl; (exact (rfl : _ = Value.int _ _)))
            | ((with_reducible apply r_callP (three_ok _ 17 19 _ (by decide) (by decide))); rfl; rfl; rfl; rfl; rfl; (exact (rfl : _ = Value.int _ _)))
            | with_reducible refine r_doneN ?_
            | with_reducible refine c_reg ?_
            | with_reducible refine c_seq ?_
            | with_reducible refine c_block ?_
            | with_reducible refine c_skip ?_
            | with_reducible refine x_then ?_
            | with_reducible refine x_blockN ?_
            | (with_reducible refine r_doneD (by kernel_rfl) ?_)
            | (with_reducible refine c_draw (by kernel_rfl) ?_)
            | ((with_reducible apply c_true); rfl))
          subst hv; subst hw
          refine x_round ⟨t + 1, by omega, by omega, ?_⟩
          refine weak_to (n := 4) rfl ?_ ?_ ?_
          repeat (first | exact trivial | refine ⟨.inl rfl, ?_⟩ | refine ⟨.inr ⟨rfl, rfl⟩, ?_⟩)
          · rfl
          · rfl
        · obtain rfl : t = 64 := by omega
          generalize hv : (shaT kk v (inBs b 64) 64).1 = vt
          generalize hw : (shaT kk v (inBs b 64) 64).2 = wt
          repeat (first
            | ((with_reducible apply r_move); rfl; rfl; (exact (rfl : _ = Value.int _ _)))
            | ((with_reducible apply r_bin); rfl; rfl; (exact (rfl : _ = Value.int _ _)); (exact (rfl : _ = Value.int _ _)); (with_reducible exact lss_f (by omega)))
            | ((with_reducible apply r_load); rfl; rfl; exact (rfl : _ = Value.pointer (some ⟨_, _, _⟩)); (exact (rfl : _ = some (Value.agg _))))
            | with_reducible refine r_doneN ?_
            | with_reducible refine c_reg ?_
            | with_reducible refine c_seq ?_
            | with_reducible refine c_block ?_
            | with_reducible refine c_exit ?_
            | with_reducible refine x_then ?_
            | with_reducible refine x_thenE ?_
            | with_reducible refine x_leaveE ?_
            | ((with_reducible apply c_false); rfl)
            | ((with_reducible apply x_block); rfl))
          refine c_loopN (fun x => [pt 0 0] ++ List.replicate 138 dead ++ [.agg (rowE w32 8 vt).toArray, .int .i64 (x : Nat)])
            (fun x : Nat => [stB (addV v vt x) (sl 1 0 m c) (w64 n), byB 64 b]) (fun x => x ≤ 8) (fun x => 8 - x) 0 (by omega) ?_ ?_
          · refine weak_to (n := 2) rfl ?_ rfl rfl
            repeat (first | exact trivial | refine ⟨.inl rfl, ?_⟩ | refine ⟨.inr ⟨rfl, rfl⟩, ?_⟩)
          · intro x hx
            by_cases hlt : x < 8
            repeat (first
              | ((with_reducible apply r_idxA (j := x)); rfl; rfl; exact (rfl : _ = Value.pointer (some ⟨_, _, _⟩)); (exact (rfl : _ = Value.int _ _)); (exact (rfl : _ = some (_, 1))); omega; omega; omega)
              | ((with_reducible apply r_index); rfl; rfl; (exact (rfl : _ = Value.agg _)); (exact (rfl : _ = Value.int _ _)); exact indexV_row (i := x) rfl rfl (by omega) (by omega) (by omega) (fun _ => rfl))
              | ((with_reducible apply r_move); rfl; rfl; (first
              | exact (rfl : _ = Value.int _ _)
              | exact (rfl : _ = Value.pointer (some _))))
              | ((with_reducible apply r_assign); rfl; rfl; (exact (rfl : _ = Value.int _ _)))
              | ((with_reducible apply r_bin); rfl; rfl; (exact (rfl : _ = Value.int _ _)); (exact (rfl : _ = Value.int _ _)); (first
              | with_reducible exact lss_t (by omega)
              | with_reducible exact bin_add rfl (by omega) (by omega)
              | with_reducible exact add32 (by first | exact ofI _ _ | rfl) (by first | exact ofI _ _ | rfl)))
              | ((with_reducible apply r_nilCheck); rfl; rfl; exact (rfl : _ = Value.pointer (some ⟨_, _, _⟩)); (exact (rfl : _ = some (Value.pointer (some _)))))
              | ((with_reducible apply r_fieldAddr); rfl; rfl; exact (rfl : _ = Value.pointer (some ⟨_, _, _⟩)); (exact (rfl : _ = some 0)); (exact Nat.zero_add _))
              | ((with_reducible apply r_load); rfl; rfl; exact (rfl : _ = Value.pointer (some ⟨_, _, _⟩)); (exact loadA_rowA rfl rfl rfl (by omega) (fun _ => rfl)))
              | ((with_reducible apply r_store); rfl; exact (rfl : _ = Value.pointer (some ⟨_, _, _⟩)); (exact (rfl : _ = Value.int _ _)); (exact storeD_rowA rfl rfl rfl rfl rfl (by omega) rfl rfl); exact (rfl : _ = _ :: _))
              | with_reducible refine r_doneN ?_
              | with_reducible refine c_reg ?_
              | with_reducible refine c_seq ?_
              | with_reducible refine c_block ?_
              | with_reducible refine c_skip ?_
              | with_reducible refine x_then ?_
              | with_reducible refine x_blockN ?_
              | (with_reducible refine r_doneD (by kernel_rfl) ?_)
              | (with_reducible refine c_draw (by kernel_rfl) ?_)
              | ((with_reducible apply c_true); rfl))
            refine x_round ⟨x + 1, by omega, by omega, ?_⟩
            refine weak_to (n := 2) rfl ?_ rfl rfl
            repeat (first | exact trivial | refine ⟨.inl rfl, ?_⟩ | refine ⟨.inr ⟨rfl, rfl⟩, ?_⟩)
            · obtain rfl : x = 8 := by omega
              repeat (first
                | ((with_reducible apply r_bin); rfl; rfl; (exact (rfl : _ = Value.int _ _)); (exact (rfl : _ = Value.int _ _)); (with_reducible exact lss_f (by omega)))
                | with_reducible refine r_doneN ?_
                | with_reducible refine c_reg ?_
                | with_reducible refine c_seq ?_
                | with_reducible refine c_exit ?_
                | with_reducible refine x_then ?_
                | with_reducible refine x_thenE ?_
                | with_reducible refine x_leaveE ?_
                | ((with_reducible apply c_false); rfl)
                | ((with_reducible apply x_block); rfl))
              refine x_endN ?_
              refine end_same (v := .tuple #[]) rfl ?_ rfl ?_ ?_
              · subst hv; rfl
              · rfl
              · exact trivial
end Go.Flat
end
section
set_option linter.unusedVariables false
set_option maxRecDepth 20000
namespace Go.Flat
open Go.Proofs
variable {G : Glob}
abbrev Bs := List (BitVec 8)
def bl (s : ByteArray) : Bs := s.data.toList.map UInt8.toBitVec
theorem bytesV_bl (s : ByteArray) : bytesV s = (bl s).map w8 := by
  unfold bytesV bl
  rw [List.map_map]; rfl
theorem bl_len (s : ByteArray) : (bl s).length = s.size := by simp [bl]
def rowB (l : Bs) : Blk := { cells := l.map w8, sz := 1, wr := true, fix := false, mv := true, pur := true }
def blk64 (l : Bs) (j : Nat) : Nat → BitVec 8 := fun i => l.getD (64 * j + i) 0
def absN (kk v : Nat → BitVec 32) (l : Bs) : Nat → Nat → BitVec 32
  | 0 => v
  | j + 1 => rndV kk (absN kk v l j) (blk64 l j)
theorem take64 {l : Bs} {j : Nat} (h : 64 * j + 64 ≤ l.length) : ((l.map w8).drop (64 * j)).take 64 = rowE w8 64 (blk64 l j) := by
  apply List.ext_getElem?
  intro i
  rcases Nat.lt_or_ge i 64 with hi | hi
  · rw [rowE_get hi, List.getElem?_take, if_pos hi, List.getElem?_drop, List.getElem?_map]
    have : 64 * j + i < l.length := by omega
    simp [blk64, this]
  · rw [List.getElem?_eq_none (by simp; omega), List.getElem?_eq_none (by rw [rowE_len]; omega)]

theorem bytesV_pure (s : ByteArray) : (bytesV s).all pureC = true := by rw [bytesV_bl]; simp only [List.all_map, List.all_eq_true]; intros; rfl
theorem mapW_pure (l : Bs) : (l.map w8).all pureC = true := by simp only [List.all_map, List.all_eq_true]; intros; rfl
set_option maxHeartbeats 4000000 in
theorem take_ok (kk : Nat → BitVec 32) (hG : G 0 = some (rowE w32 64 kk)) (v : Nat → BitVec 32) (pre rest full : Bs) (s : ByteArray) (n : BitVec 64) (hf : full = rest ++ bl s) (hs : full.length ≤ 140737488355328) :
    CallL Tryd.prog G 60 [pt 0 0, .string s] [stB v (slv 1 pre.length rest.length rest.length) (w64 n), rowB (pre ++ rest)] (.tuple #[])
      [stB (absN kk v full (full.length / 64)) (slv 1 (64 * (full.length / 64)) (full.length - 64 * (full.length / 64)) (full.length - 64 * (full.length / 64))) (w64 (n + BitVec.ofInt 64 s.size)), rowB full] := by
  have hlen : full.length = rest.length + s.size := by rw [hf]; simp [bl_len]
  refine walk (fn := Tryd.f60) (nt := 44) rfl rfl rfl rfl ?_
  have hcat : (((pre ++ rest).map w8).drop pre.length).take (rest.length * 1) ++ bytesV s = full.map w8 := by
    rw [Nat.mul_one, List.map_append, List.drop_append_of_le_length (by simp), bytesV_bl, hf, List.map_append]
    have : List.drop pre.length (List.map w8 pre) = [] := by simp
    rw [this, List.nil_append, List.take_of_length_le (by simp)]
  repeat (first
    | ((with_reducible apply r_append); rfl; rfl; rfl; exact .inr rfl; exact (rfl : _ = Value.slice (some ⟨_, _, _⟩) _ _); exact (rfl : _ = Value.string _); exact appD_pure (n' := full.length) (rfl : _ = some (1, _, 1)) rfl rfl rfl rfl rfl (bytesV_pure s) (by simp [rowB]) (by decide) hlen.symm (by omega); rfl; exact (rfl : _ = _ :: _))
    | ((with_reducible apply r_move); rfl; rfl; (first
    | exact (rfl : _ = Value.pointer (some _))
    | exact (rfl : _ = Value.string _)))
    | ((with_reducible apply r_bin); rfl; rfl; (exact (rfl : _ = Value.int _ _)); (exact (rfl : _ = Value.int _ _)); (with_reducible exact add64 (by first | exact ofI _ _ | rfl) (by first | exact ofI _ _ | rfl)))
    | ((with_reducible apply r_conv); rfl; rfl; (exact (rfl : _ = Value.int _ _)); (exact conv64 rfl rfl (by first | exact ofI_set _ | rfl)))
    | ((with_reducible apply r_nilCheck); rfl; rfl; exact (rfl : _ = Value.pointer (some ⟨_, _, _⟩)); (exact (rfl : _ = some (Value.pointer (some _)))))
    | ((with_reducible apply r_fieldAddr); rfl; rfl; exact (rfl : _ = Value.pointer (some ⟨_, _, _⟩)); (first
    | exact (rfl : _ = some 8)
    | exact (rfl : _ = some 9)); (exact Nat.zero_add _))
    | ((with_reducible apply r_load); rfl; rfl; exact (rfl : _ = Value.pointer (some ⟨_, _, _⟩)); (first
    | exact (rfl : _ = some (Value.int _ _))
    | exact (rfl : _ = some (Value.slice _ _ _))))
    | ((with_reducible apply r_len); rfl; rfl; (exact (rfl : _ = Value.string _)); (exact (rfl : _ = some (Value.int _ _))))
    | ((with_reducible apply r_store); rfl; exact (rfl : _ = Value.pointer (some ⟨_, _, _⟩)); (first
    | exact (rfl : _ = Value.int _ _)
    | exact (rfl : _ = Value.slice _ _ _)); (rfl); exact (rfl : _ = _ :: _))
    | with_reducible refine r_doneN ?_
    | with_reducible refine c_reg ?_
    | with_reducible refine c_seq ?_
    | with_reducible refine c_block ?_
    | with_reducible refine x_then ?_)
  refine c_loopN (fun x => [pt 0 0])
    (fun j : Nat => [stB (absN kk v full j) (slv 1 (64 * j) (full.length - 64 * j) (full.length - 64 * j)) (w64 (n + BitVec.ofInt 64 s.size)), rowB full]) (fun j => 64 * j ≤ full.length) (fun j => full.length - 64 * j) 0 (by omega) ?_ ?_
  · refine weak_to (n := 2) rfl ?_ ?_ rfl
    repeat (first | exact trivial | refine ⟨.inl rfl, ?_⟩ | refine ⟨.inr ⟨rfl, rfl⟩, ?_⟩)
    · exact congrArg (fun c => [stB v (slv 1 0 full.length full.length) (w64 (n + BitVec.ofInt 64 s.size)), ({ cells := c, sz := 1, wr := true, fix := false, mv := true, pur := true } : Blk)]) hcat
  · intro j hj
    by_cases hlt : 64 * j + 64 ≤ full.length
    repeat (first
      | ((with_reducible apply r_slice); rfl; rfl; exact (rfl : _ = Value.slice (some ⟨_, _, _⟩) _ _); rfl; rfl; first | exact slice_hi (h := 64) rfl rfl rfl (by omega) rfl | exact slice_lo (l := 64) (sz := 1) (j := 64 * (j + 1)) (m := full.length - 64 * (j + 1)) (c' := full.length - 64 * (j + 1)) rfl rfl rfl rfl (by omega) (by omega) rfl (by omega) (by omega) (by omega))
      | ((with_reducible apply r_callN (e := [some (0, 0), some (1, 64 * j)]) (nid := 0) (round_ok kk hG (absN kk v full j) (blk64 full j) (full.length - 64 * j) (full.length - 64 * j) 64 (n + BitVec.ofInt 64 s.size))); rfl; rfl; rfl; rfl; rfl; rfl; rfl; exact ⟨⟨⟨rfl, rfl⟩, ⟨rfl, rfl, rfl, by omega, by omega⟩, trivial⟩, ⟨emb_wr rfl rfl rfl rfl, emb_ro rfl rfl (by (show 64 * j + (rowE w8 64 _).length ≤ (List.map w8 full).length; rw [rowE_len, List.length_map]; exact hlt)) (take64 hlt), trivial⟩, rfl, rfl, rfl⟩; exact (rfl : _ = Value.tuple _); exact (rfl : _ = _ :: _))
      | ((with_reducible apply r_move); rfl; rfl; (exact (rfl : _ = Value.pointer (some _))))
      | ((with_reducible apply r_bin); rfl; rfl; (exact (rfl : _ = Value.int _ _)); (exact (rfl : _ = Value.int _ _)); (with_reducible exact geq_t (by omega)))
      | ((with_reducible apply r_nilCheck); rfl; rfl; exact (rfl : _ = Value.pointer (some ⟨_, _, _⟩)); (exact (rfl : _ = some (Value.pointer (some _)))))
      | ((with_reducible apply r_fieldAddr); rfl; rfl; exact (rfl : _ = Value.pointer (some ⟨_, _, _⟩)); (exact (rfl : _ = some 8)); (exact Nat.zero_add _))
      | ((with_reducible apply r_load); rfl; rfl; exact (rfl : _ = Value.pointer (some ⟨_, _, _⟩)); (exact (rfl : _ = some (Value.slice _ _ _))))
      | ((with_reducible apply r_len); rfl; rfl; (exact (rfl : _ = Value.slice _ _ _)); (exact (rfl : _ = some (Value.int _ _))))
      | ((with_reducible apply r_store); rfl; exact (rfl : _ = Value.pointer (some ⟨_, _, _⟩)); (exact (rfl : _ = Value.slice _ _ _)); (rfl); exact (rfl : _ = _ :: _))
      | with_reducible refine r_doneN ?_
      | with_reducible refine c_reg ?_
      | with_reducible refine c_seq ?_
      | with_reducible refine c_block ?_
      | with_reducible refine c_skip ?_
      | with_reducible refine x_then ?_
      | with_reducible refine x_blockN ?_
      | ((with_reducible apply c_true); rfl))
    refine x_round ⟨j + 1, by omega, by omega, ?_⟩
    refine weak_to (n := 2) rfl ?_ ?_ rfl
    repeat (first | exact trivial | refine ⟨.inl rfl, ?_⟩ | refine ⟨.inr ⟨rfl, rfl⟩, ?_⟩)
    · rfl
    · have hj2 : j = full.length / 64 := by omega
      subst hj2
      repeat (first
        | ((with_reducible apply r_move); rfl; rfl; (exact (rfl : _ = Value.pointer (some _))))
        | ((with_reducible apply r_bin); rfl; rfl; (exact (rfl : _ = Value.int _ _)); (exact (rfl : _ = Value.int _ _)); (with_reducible exact geq_f (by omega)))
        | ((with_reducible apply r_nilCheck); rfl; rfl; exact (rfl : _ = Value.pointer (some ⟨_, _, _⟩)); (exact (rfl : _ = some (Value.pointer (some _)))))
        | ((with_reducible apply r_fieldAddr); rfl; rfl; exact (rfl : _ = Value.pointer (some ⟨_, _, _⟩)); (exact (rfl : _ = some 8)); (exact Nat.zero_add _))
        | ((with_reducible apply r_load); rfl; rfl; exact (rfl : _ = Value.pointer (some ⟨_, _, _⟩)); (exact (rfl : _ = some (Value.slice _ _ _))))
        | ((with_reducible apply r_len); rfl; rfl; (exact (rfl : _ = Value.slice _ _ _)); (exact (rfl : _ = some (Value.int _ _))))
        | with_reducible refine r_doneN ?_
        | with_reducible refine c_reg ?_
        | with_reducible refine c_seq ?_
        | with_reducible refine c_exit ?_
        | with_reducible refine x_then ?_
        | with_reducible refine x_thenE ?_
        | with_reducible refine x_leaveE ?_
        | ((with_reducible apply c_false); rfl)
        | ((with_reducible apply x_block); rfl))
      refine x_endN ?_
      refine end_same (v := .tuple #[]) rfl ?_ rfl ?_ ?_
      · rfl
      · rfl
      · exact trivial
end Go.Flat
end
section
set_option linter.unusedVariables false
set_option maxRecDepth 20000
namespace Go.Flat
open Go.Proofs
variable {G : Glob}
def shaI : Nat → BitVec 32
  | 0 => 0x6a09e667 | 1 => 0xbb67ae85 | 2 => 0x3c6ef372 | 3 => 0xa54ff53a | 4 => 0x510e527f | 5 => 0x9b05688c | 6 => 0x1f83d9ab | _ => 0x5be0cd19
abbrev nilS : Value := .slice none 0 0
def stCells (v : Nat → BitVec 32) (r n : Value) : List Value := rowE w32 8 v ++ [r, n]
theorem begin_ok : CallL Tryd.prog G 59 [] [] (.agg (stCells shaI nilS (w64 0)).toArray) [] := by
  refine walk (fn := Tryd.f59) (nt := 3) rfl rfl rfl rfl ?_
  refine c_hole 1 (H' := [hole]) rfl ?_
  repeat (first
    | ((with_reducible apply r_build); rfl; rfl; rfl; exact (rfl : _ = some (Value.agg _)))
    | ((with_reducible apply r_store); rfl; exact (rfl : _ = Value.pointer (some ⟨_, _, _⟩)); (exact (rfl : _ = Value.agg _)); (rfl); exact (rfl : _ = _ :: _))
    | ((with_reducible apply r_alloc (nid := 0)); rfl; rfl; rfl; exact (rfl : _ = _ :: _))
    | with_reducible refine r_doneN ?_
    | with_reducible refine c_reg ?_
    | with_reducible refine c_seq ?_
    | with_reducible refine c_ret ?_
    | with_reducible refine x_then ?_)
  refine x_end ?_
  refine end_pv (v := .agg _) rfl rfl ?_
  rfl
def tl (M : Bs) : Bs := M.drop (64 * (M.length / 64))
def absM (kk : Nat → BitVec 32) (M : Bs) : Nat → BitVec 32 := absN kk shaI M (M.length / 64)
def nextPre (M : Bs) (s : ByteArray) : Bs := (tl M ++ bl s).take (64 * ((tl M ++ bl s).length / 64))
def stM (kk : Nat → BitVec 32) (M pre : Bs) (r : Nat) : Blk := stB (absM kk M) (slv r pre.length (tl M).length (tl M).length) (w64 (BitVec.ofNat 64 M.length))
theorem tl_len (M : Bs) : (tl M).length = M.length - 64 * (M.length / 64) := by simp [tl]
theorem blk64_app (M N : Bs) (j : Nat) : blk64 (tl M ++ N) j = blk64 (M ++ N) (M.length / 64 + j) := by
  have hk : 64 * (M.length / 64) ≤ M.length := by omega
  have : tl M ++ N = (M ++ N).drop (64 * (M.length / 64)) := by unfold tl; rw [List.drop_append_of_le_length hk]
  funext i
  unfold blk64
  rw [this]
  simp only [List.getD_eq_getElem?_getD, List.getElem?_drop]
  congr 2
  omega
theorem absN_app (kk : Nat → BitVec 32) (M N : Bs) : ∀ j, absN kk (absM kk M) (tl M ++ N) j = absN kk shaI (M ++ N) (M.length / 64 + j)
  | 0 => by
    simp only [absN, Nat.add_zero]
    unfold absM
    have : ∀ k, 64 * k ≤ M.length → absN kk shaI M k = absN kk shaI (M ++ N) k := by
      intro k
      induction k with
      | zero => intros; rfl
      | succ k ih =>
        intro h
        simp only [absN]
        rw [ih (by omega)]
        have hb : ∀ i, i < 64 → blk64 M k i = blk64 (M ++ N) k i := by
          intro i hi
          unfold blk64
          simp only [List.getD_eq_getElem?_getD]
          rw [List.getElem?_append_left (by omega)]
        have hin : ∀ t, t ≤ 64 → inBs (blk64 M k) t = inBs (blk64 (M ++ N) k) t := by
          intro t
          induction t with
          | zero => intros; rfl
          | succ t ih2 => intro ht; simp only [inBs]; rw [ih2 (by omega), hb t (by omega)]
        unfold rndV
        rw [hin 64 (by omega)]
    exact this _ (by omega)
  | j + 1 => by
    have e : M.length / 64 + (j + 1) = (M.length / 64 + j) + 1 := by omega
    rw [e]
    simp only [absN]
    rw [absN_app kk M N j, blk64_app]
theorem take_ok' (kk : Nat → BitVec 32) (hG : G 0 = some (rowE w32 64 kk)) (M pre : Bs) (s : ByteArray) (hs : (tl M).length + s.size ≤ 140737488355328) :
    CallL Tryd.prog G 60 [pt 0 0, .string s] [stM kk M pre 1, rowB (pre ++ tl M)] (.tuple #[]) [stM kk (M ++ bl s) (nextPre M s) 1, rowB (nextPre M s ++ tl (M ++ bl s))] := by
  have h := take_ok (G := G) kk hG (absM kk M) pre (tl M) (tl M ++ bl s) s (BitVec.ofNat 64 M.length) rfl (by simp [bl_len]; omega)
  have hk : 64 * (M.length / 64) ≤ M.length := by omega
  have hl : (tl M ++ bl s).length = M.length - 64 * (M.length / 64) + s.size := by simp [tl_len, bl_len]
  have hL : (M ++ bl s).length = M.length + s.size := by simp [bl_len]
  have hq : (M ++ bl s).length / 64 = M.length / 64 + (tl M ++ bl s).length / 64 := by rw [hl, hL]; omega
  have hd : tl (M ++ bl s) = (tl M ++ bl s).drop (64 * ((tl M ++ bl s).length / 64)) := by
    have e1 : tl M ++ bl s = (M ++ bl s).drop (64 * (M.length / 64)) := by unfold tl; rw [List.drop_append_of_le_length hk]
    rw [e1, List.drop_drop, ← e1]
    unfold tl
    congr 1
    rw [hq]; unfold tl; omega
  have hp : (nextPre M s).length = 64 * ((tl M ++ bl s).length / 64) := by unfold nextPre; rw [List.length_take]; omega
  have e1 : absN kk (absM kk M) (tl M ++ bl s) ((tl M ++ bl s).length / 64) = absM kk (M ++ bl s) := by rw [absN_app]; unfold absM; rw [hq]
  have e2 : nextPre M s ++ tl (M ++ bl s) = tl M ++ bl s := by rw [hd]; exact List.take_append_drop _ _
  have e3 : (tl (M ++ bl s)).length = (tl M ++ bl s).length - 64 * ((tl M ++ bl s).length / 64) := by rw [hd, List.length_drop]
  have e4 : BitVec.ofNat 64 M.length + BitVec.ofInt 64 s.size = BitVec.ofNat 64 (M ++ bl s).length := by rw [hL, BitVec.ofInt_natCast, BitVec.ofNat_add]
  rw [e1, e4, ← e3, ← hp, ← e2] at h
  exact h
end Go.Flat
end
section
set_option linter.unusedVariables false
set_option maxRecDepth 20000
namespace Go.Flat
open Go.Proofs
variable {G : Glob}
def strB (ps : List ByteArray) : Blk := { cells := ps.map Value.string, sz := 1, wr := false, fix := false, mv := true, pur := true }
def dgB (d : Nat → BitVec 8) : Blk := { cells := rowE w8 32 d, sz := 32, wr := true, fix := true, mv := false, pur := true }
def msgOf (ps : List ByteArray) : Bs := (ps.map bl).flatten
def bits8 (n : BitVec 64) (i : Nat) : BitVec 8 := (n >>> (56 - 8 * (i : Int)).toNat).setWidth 8
def pad0 (r : Nat) : Bs := (128 : BitVec 8) :: List.replicate ((119 - r) % 64) 0
def padN (r : Nat) (n : BitVec 64) : Nat → Bs
  | 0 => pad0 r
  | i + 1 => padN r n i ++ [bits8 n i]
def shaD (v : Nat → BitVec 32) (i : Nat) : BitVec 8 := (v (i / 4) >>> (24 - (i : Int) % 4 * 8).toNat).setWidth 8
def shaDs (v : Nat → BitVec 32) : Nat → Nat → BitVec 8
  | 0 => fun _ => 0
  | i + 1 => updN (shaDs v i) i (shaD v i)
def lenW (M : Bs) : BitVec 64 := BitVec.ofNat 64 M.length * BitVec.ofInt 64 8
def padM (M : Bs) (i : Nat) : Bs := padN (tl M).length (lenW M) i
def shaOf (kk : Nat → BitVec 32) (M : Bs) : Nat → BitVec 8 := shaDs (absM kk (M ++ padM M 8)) 32
theorem padN_len (r : Nat) (n : BitVec 64) : ∀ i, (padN r n i).length = 1 + (119 - r) % 64 + i
  | 0 => by simp [padN, pad0]; omega
  | i + 1 => by simp [padN, padN_len r n i]; omega
def strOf (l : Bs) : ByteArray := ⟨(l.map UInt8.ofBitVec).toArray⟩
theorem bl_strOf (l : Bs) : bl (strOf l) = l := by
  unfold bl strOf
  simp only [List.map_map]
  have : (UInt8.toBitVec ∘ UInt8.ofBitVec) = (id : BitVec 8 → BitVec 8) := rfl
  rw [this, List.map_id]
theorem strOf_size (l : Bs) : (strOf l).size = l.length := by rw [← bl_len, bl_strOf]

set_option maxHeartbeats 4000000 in
theorem Of_ok (kk : Nat → BitVec 32) (hG : G 0 = some (rowE w32 64 kk)) (ps : List ByteArray) (c : Nat) (hn : ps.length ≤ 1000000) (hs : ∀ s, s ∈ ps → s.size ≤ 70368744177664) :
    CallL Tryd.prog G 44 [slv 0 0 ps.length c] [strB ps] (.agg (rowE w8 32 (shaOf kk (msgOf ps))).toArray) [strB ps] := by
  refine walk (fn := Tryd.f44) (nt := 67) rfl rfl rfl rfl ?_
  refine c_hole 6 (H' := [strB ps, hole, hole, hole, hole, hole, hole]) rfl ?_
  repeat (first
    | ((with_reducible apply r_move); rfl; rfl; (first
    | exact (rfl : _ = Value.int _ _)
    | exact (rfl : _ = Value.slice _ _ _)))
    | ((with_reducible apply r_len); rfl; rfl; (exact (rfl : _ = Value.slice _ _ _)); (exact (rfl : _ = some (Value.int _ _))))
    | ((with_reducible apply r_store); rfl; exact (rfl : _ = Value.pointer (some ⟨_, _, _⟩)); (exact (rfl : _ = Value.agg _)); (rfl); exact (rfl : _ = _ :: _))
    | ((with_reducible apply r_alloc (nid := 1)); rfl; rfl; rfl; exact (rfl : _ = _ :: _))
    | ((with_reducible apply r_alloc (nid := 2)); rfl; rfl; rfl; exact (rfl : _ = _ :: _))
    | ((with_reducible apply r_callP (begin_ok)); rfl; rfl; rfl; rfl; rfl; (exact (rfl : _ = Value.agg _)))
    | with_reducible refine r_doneN ?_
    | with_reducible refine c_reg ?_
    | with_reducible refine c_seq ?_
    | with_reducible refine c_block ?_
    | with_reducible refine x_then ?_)
  refine c_weak (Weak.nilCell (k := 2) (j := 8) (b := 3) true 1 rfl (by decide) rfl (by show 0 < 10; decide) rfl rfl) ?_
  refine c_loopN (fun x : Nat × Bs => [dead, dead, pt 1 0, pt 2 0] ++ List.replicate 8 dead ++ [slv 0 0 ps.length c, .int .i64 ps.length, .int .i64 (x.1 : Nat)])
    (fun x => [strB ps, dgB (fun _ => 0), stM kk (msgOf (ps.take x.1)) x.2 3, rowB (x.2 ++ tl (msgOf (ps.take x.1))), hole, hole, hole]) (fun x => x.1 ≤ ps.length) (fun x => ps.length - x.1) (0, []) (by simp) ?_ ?_
  · refine weak_to (n := 7) rfl ?_ ?_ rfl
    repeat (first | exact trivial | refine ⟨.inl rfl, ?_⟩ | refine ⟨.inr ⟨rfl, rfl⟩, ?_⟩)
    · show _ = [strB ps, dgB (fun _ => 0), stM kk (msgOf (ps.take 0)) [] 3, rowB ([] ++ tl (msgOf (ps.take 0))), hole, hole, hole]
      rw [show msgOf (ps.take 0) = [] from by simp [msgOf]]
      rfl
  · rintro ⟨i, pre⟩ hi
    dsimp only at hi ⊢
    by_cases hlt : i < ps.length
    · have hM : msgOf (ps.take (i + 1)) = msgOf (ps.take i) ++ bl ps[i] := by
        unfold msgOf
        rw [List.take_add_one, List.map_append, List.flatten_append]
        simp [hlt]
      have hsz : (tl (msgOf (ps.take i))).length + (ps[i]).size ≤ 140737488355328 := by
        have := hs ps[i] (List.getElem_mem hlt)
        rw [tl_len]; omega
      have hget : (strB ps).cells[i]? = some (Value.string ps[i]) := by simp [strB, hlt]
      generalize hMi : msgOf (ps.take i) = M at hM hsz
      repeat (first
        | ((with_reducible apply r_load); rfl; rfl; exact (rfl : _ = Value.pointer (some ⟨_, _, _⟩)); exact loadA_at rfl rfl hget rfl)
        | ((with_reducible apply r_call (e := [some (2, 0), some (3, 0)]) (nid := 0) (take_ok' kk hG M pre ps[i] hsz)); rfl; rfl; rfl; rfl; rfl; rfl; refine ⟨⟨⟨rfl, rfl⟩, rfl, trivial⟩, ⟨emb_wr rfl rfl rfl (congrArg (fun q => rowE w32 8 (absM kk M) ++ [slv 3 q (tl M).length (tl M).length, w64 (BitVec.ofNat 64 M.length)]) (Nat.zero_add _).symm), emb_wr rfl rfl rfl rfl, trivial⟩, rfl, rfl, rfl, Nat.le_refl _⟩; exact (rfl : _ = Value.tuple _); rfl; exact (rfl : _ = _ :: _))
        | ((with_reducible apply r_idxS (j := i)); rfl; rfl; exact (rfl : _ = Value.slice (some ⟨_, _, _⟩) _ _); (exact (rfl : _ = Value.int _ _)); (exact (rfl : _ = some (_, 1))); omega; omega; omega)
        | ((with_reducible apply r_move); rfl; rfl; (first
        | exact (rfl : _ = Value.int _ _)
        | exact (rfl : _ = Value.string _)))
        | ((with_reducible apply r_assign); rfl; rfl; (exact (rfl : _ = Value.string _)))
        | ((with_reducible apply r_bin); rfl; rfl; (exact (rfl : _ = Value.int _ _)); (exact (rfl : _ = Value.int _ _)); (first
        | with_reducible exact lss_t (by omega)
        | with_reducible exact bin_add rfl (by omega) (by omega)))
        | with_reducible refine r_doneN ?_
        | with_reducible refine c_reg ?_
        | with_reducible refine c_seq ?_
        | with_reducible refine c_block ?_
        | with_reducible refine c_skip ?_
        | with_reducible refine x_then ?_
        | with_reducible refine x_blockN ?_
        | ((with_reducible apply c_true); rfl))
      refine x_round ⟨(i + 1, nextPre M ps[i]), by show i + 1 ≤ _; omega, by show _ - (i + 1) < _; omega, ?_⟩
      refine weak_to (n := 7) rfl ?_ ?_ rfl
      repeat (first | exact trivial | refine ⟨.inl rfl, ?_⟩ | refine ⟨.inr ⟨rfl, rfl⟩, ?_⟩)
      · show _ = [strB ps, dgB (fun _ => 0), stM kk (msgOf (ps.take (i + 1))) (nextPre M ps[i]) 3, rowB (nextPre M ps[i] ++ tl (msgOf (ps.take (i + 1)))), hole, hole, hole]
        rw [hM]
        exact congrArg (fun q => [strB ps, dgB (fun _ => 0), stB (absM kk (M ++ bl ps[i])) (slv 3 q (tl (M ++ bl ps[i])).length (tl (M ++ bl ps[i])).length) (w64 (BitVec.ofNat 64 (M ++ bl ps[i]).length)), rowB (nextPre M ps[i] ++ tl (M ++ bl ps[i])), hole, hole, hole]) (Nat.zero_add _)
    · obtain rfl : i = ps.length := by omega
      rw [List.take_length]
      have htl : (tl (msgOf ps)).length < 64 := by rw [tl_len]; omega
      generalize hMi : msgOf ps = M at htl
      have hp : ∀ i, (padM M i).length = 1 + (119 - (tl M).length) % 64 + i := fun i => padN_len _ _ i
      repeat (first
        | ((with_reducible apply r_make (nid := 4)); rfl; rfl; exact (rfl : _ = Value.int _ _); exact (rfl : _ = Value.int _ _); exact makeD_ok (n := (119 - (tl M).length) % 64 + 1) (c := 128) (rfl : _ = some (1, _, 1)) (by omega) rfl (by omega) (by decide) (by decide) rfl; exact (rfl : _ = _ :: _))
        | ((with_reducible apply r_store); rfl; exact (rfl : _ = Value.pointer (some ⟨4, _, _⟩)); exact (rfl : _ = Value.int _ _); exact storeD_set rfl rfl rfl (rep_one _ _) (by simp) rfl rfl; exact (rfl : _ = _ :: _))
        | ((with_reducible apply r_idxS (j := 0)); rfl; rfl; exact (rfl : _ = Value.slice (some ⟨_, _, _⟩) _ _); (exact (rfl : _ = Value.int _ _)); (exact (rfl : _ = some (_, 1))); omega; omega; omega)
        | ((with_reducible apply r_move); rfl; rfl; (first
        | exact (rfl : _ = Value.int _ _)
        | exact (rfl : _ = Value.slice _ _ _)))
        | ((with_reducible apply r_assign); rfl; rfl; (first
        | exact (rfl : _ = Value.int _ _)
        | exact (rfl : _ = Value.slice _ _ _)))
        | ((with_reducible apply r_bin); rfl; rfl; (exact (rfl : _ = Value.int _ _)); (exact (rfl : _ = Value.int _ _)); (first
        | with_reducible exact lss_f (by omega)
        | with_reducible exact bin_add rfl (by omega) (by omega)
        | with_reducible exact bin_sub rfl (by omega) (by omega)
        | with_reducible exact mul64 (by first | exact ofI _ _ | rfl) (by first | exact ofI _ _ | rfl)
        | with_reducible exact rem_p (by omega) (by omega)))
        | ((with_reducible apply r_fieldAddr); rfl; rfl; exact (rfl : _ = Value.pointer (some ⟨_, _, _⟩)); (first
        | exact (rfl : _ = some 8)
        | exact (rfl : _ = some 9)); (exact Nat.zero_add _))
        | ((with_reducible apply r_load); rfl; rfl; exact (rfl : _ = Value.pointer (some ⟨_, _, _⟩)); (first
        | exact (rfl : _ = some (Value.int _ _))
        | exact (rfl : _ = some (Value.slice _ _ _))))
        | ((with_reducible apply r_len); rfl; rfl; (exact (rfl : _ = Value.slice _ _ _)); (exact (rfl : _ = some (Value.int _ _))))
        | with_reducible refine r_doneN ?_
        | with_reducible refine c_reg ?_
        | with_reducible refine c_seq ?_
        | with_reducible refine c_block ?_
        | with_reducible refine c_exit ?_
        | with_reducible refine x_then ?_
        | with_reducible refine x_thenE ?_
        | with_reducible refine x_leaveE ?_
        | ((with_reducible apply c_false); rfl)
        | ((with_reducible apply x_block); rfl))
      refine c_loopN (fun x : Nat × Nat => [dead, dead, pt 1 0, pt 2 0, dead, dead, w64 (lenW M), slv 4 0 (padM M x.1).length x.2] ++ List.replicate 25 dead ++ [.int .i64 (x.1 : Nat)])
        (fun x => [strB ps, dgB (fun _ => 0), stM kk M pre 3, rowB (pre ++ tl M), rowB (padM M x.1)]) (fun x => x.1 ≤ 8) (fun x => 8 - x.1) (0, 128) (by show 0 ≤ 8; decide) ?_ ?_
      · refine weak_to (n := 5) rfl ?_ ?_ rfl
        · rw [show (padM M (0, 128).1).length = (119 - (tl M).length) % 64 + 1 from by rw [hp]; omega]
          repeat (first | exact trivial | refine ⟨.inl rfl, ?_⟩ | refine ⟨.inr ⟨rfl, rfl⟩, ?_⟩)
        · exact congrArg (fun q => [strB ps, dgB (fun _ => 0), stM kk M pre 3, rowB (pre ++ tl M), ({ cells := w8 128 :: q, sz := 1, wr := true, fix := false, mv := true, pur := true } : Blk)]) (show List.replicate ((119 - (tl M).length) % 64) (w8 0) = List.map w8 (List.replicate ((119 - (tl M).length) % 64) 0) from by rw [List.map_replicate])
      · rintro ⟨i, cap⟩ hi8
        dsimp only at hi8 ⊢
        by_cases hl8 : i < 8
        · have hpi := hp i
          have hpi1 := hp (i + 1)
          refine c_hole 1 (H' := [strB ps, dgB (fun _ => 0), stM kk M pre 3, rowB (pre ++ tl M), rowB (padM M i), hole]) rfl ?_
          repeat (first
            | ((with_reducible apply r_lit (nid := 5)); rfl; rfl; rfl; exact (rfl : _ = some (Value.slice _ _ _, _)); exact (rfl : _ = _ :: _))
            | ((with_reducible apply r_append); rfl; rfl; rfl; exact .inl ⟨_, rfl⟩; exact (rfl : _ = Value.slice (some ⟨_, _, _⟩) _ _); exact (rfl : _ = Value.slice (some ⟨_, _, _⟩) _ _); exact appD_pure (n' := (padM M (i + 1)).length) (rfl : _ = some (1, _, 1)) (rfl : _ = some (1, _)) rfl rfl rfl rfl rfl (by simp [rowB]) (by decide) (by omega) (by omega); rfl; exact (rfl : _ = _ :: _))
            | ((with_reducible apply r_move); rfl; rfl; (first
            | exact (rfl : _ = Value.int _ _)
            | exact (rfl : _ = Value.slice _ _ _)))
            | ((with_reducible apply r_assign); rfl; rfl; (first
            | exact (rfl : _ = Value.int _ _)
            | exact (rfl : _ = Value.slice _ _ _)))
            | ((with_reducible apply r_bin); rfl; rfl; (exact (rfl : _ = Value.int _ _)); (exact (rfl : _ = Value.int _ _)); (first
            | with_reducible exact lss_t (by omega)
            | with_reducible exact bin_add rfl (by omega) (by omega)
            | with_reducible exact bin_sub rfl (by omega) (by omega)
            | with_reducible exact bin_mul rfl (by omega) (by omega)
            | with_reducible exact shr64 (by omega)))
            | ((with_reducible apply r_conv); rfl; rfl; (exact (rfl : _ = Value.int _ _)); (exact conv8 rfl rfl (by first | exact ofI_set _ | rfl)))
            | with_reducible refine r_doneN ?_
            | with_reducible refine c_reg ?_
            | with_reducible refine c_seq ?_
            | with_reducible refine c_block ?_
            | with_reducible refine c_skip ?_
            | with_reducible refine x_then ?_
            | with_reducible refine x_blockN ?_
            | ((with_reducible apply c_true); rfl))
          refine x_round ⟨(i + 1, (padM M (i + 1)).length), by show i + 1 ≤ 8; omega, by show 8 - (i + 1) < 8 - i; omega, ?_⟩
          refine weak_to (n := 5) rfl ?_ ?_ rfl
          repeat (first | exact trivial | refine ⟨.inl rfl, ?_⟩ | refine ⟨.inr ⟨rfl, rfl⟩, ?_⟩)
          · have hq : List.take ((padM M i).length * 1) (List.drop 0 ((padM M i).map w8)) ++ [w8 (bits8 (lenW M) i)] = (padM M (i + 1)).map w8 := by
              rw [Nat.mul_one, List.drop_zero, List.take_of_length_le (by simp)]
              show _ = List.map w8 (padM M i ++ [bits8 (lenW M) i])
              rw [List.map_append]; rfl
            exact congrArg (fun q => [strB ps, dgB (fun _ => 0), stM kk M pre 3, rowB (pre ++ tl M), ({ cells := q, sz := 1, wr := true, fix := false, mv := true, pur := true } : Blk)]) hq
        · obtain rfl : i = 8 := by omega
          have hp8 := hp 8
          refine c_hole 1 (H' := [strB ps, dgB (fun _ => 0), stM kk M pre 3, rowB (pre ++ tl M), rowB (padM M 8), hole]) rfl ?_
          have hS : bl (strOf (padM M 8)) = padM M 8 := bl_strOf _
          have hsz : (tl M).length + (strOf (padM M 8)).size ≤ 140737488355328 := by rw [strOf_size]; omega
          repeat (first
            | ((with_reducible apply r_str); rfl; rfl; exact (rfl : _ = Value.slice (some ⟨_, _, _⟩) _ _); exact strD_row (l := padM M 8) rfl rfl rfl rfl (by simp [rowB]) (by show List.take (padM M 8).length (List.drop 0 ((padM M 8).map w8)) = _; rw [List.drop_zero, List.take_of_length_le (by simp)]))
            | ((with_reducible apply r_call (e := [some (2, 0), some (3, 0)]) (nid := 0) (take_ok' kk hG M pre (strOf (padM M 8)) hsz)); rfl; rfl; rfl; rfl; rfl; rfl; refine ⟨⟨⟨rfl, rfl⟩, rfl, trivial⟩, ⟨emb_wr rfl rfl rfl (congrArg (fun q => rowE w32 8 (absM kk M) ++ [slv 3 q (tl M).length (tl M).length, w64 (BitVec.ofNat 64 M.length)]) (Nat.zero_add _).symm), emb_wr rfl rfl rfl rfl, trivial⟩, rfl, rfl, rfl, Nat.le_refl _⟩; exact (rfl : _ = Value.tuple _); rfl; exact (rfl : _ = _ :: _))
            | ((with_reducible apply r_move); rfl; rfl; (first
            | exact (rfl : _ = Value.int _ _)
            | exact (rfl : _ = Value.slice _ _ _)))
            | ((with_reducible apply r_bin); rfl; rfl; (exact (rfl : _ = Value.int _ _)); (exact (rfl : _ = Value.int _ _)); (with_reducible exact lss_f (by omega)))
            | ((with_reducible apply r_alloc (nid := 5)); rfl; rfl; rfl; exact (rfl : _ = _ :: _))
            | with_reducible refine r_doneN ?_
            | with_reducible refine c_reg ?_
            | with_reducible refine c_seq ?_
            | with_reducible refine c_block ?_
            | with_reducible refine c_exit ?_
            | with_reducible refine x_then ?_
            | with_reducible refine x_thenE ?_
            | with_reducible refine x_leaveE ?_
            | ((with_reducible apply c_false); rfl)
            | ((with_reducible apply x_block); rfl))
          generalize hV : absM kk (M ++ bl (strOf (padM M 8))) = V
          refine c_loopN (fun x : Nat => [dead, dead, pt 1 0, pt 2 0, dead, dead, dead, dead, dead, pt 5 0] ++ List.replicate 39 dead ++ [.int .i64 (x : Nat)])
            (fun x : Nat => [strB ps, dgB (fun _ => 0), stB V (slv 3 (0 + (nextPre M (strOf (padM M 8))).length) (tl (M ++ bl (strOf (padM M 8)))).length (tl (M ++ bl (strOf (padM M 8)))).length) (w64 (BitVec.ofNat 64 (M ++ bl (strOf (padM M 8))).length)), rowB (nextPre M (strOf (padM M 8)) ++ tl (M ++ bl (strOf (padM M 8)))), rowB (padM M 8), dgB (shaDs V x)]) (fun x => x ≤ 32) (fun x => 32 - x) 0 (by omega) ?_ ?_
          · subst hV
            refine weak_to (n := 6) rfl ?_ rfl rfl
            repeat (first | exact trivial | refine ⟨.inl rfl, ?_⟩ | refine ⟨.inr ⟨rfl, rfl⟩, ?_⟩)
          · intro x hx
            by_cases hl : x < 32
            repeat (first
              | ((with_reducible apply r_idxA (j := x / 4)); rfl; rfl; exact (rfl : _ = Value.pointer (some ⟨_, _, _⟩)); (exact (rfl : _ = Value.int _ _)); (exact (rfl : _ = some (_, 1))); omega; omega; omega)
              | ((with_reducible apply r_idxA (j := x)); rfl; rfl; exact (rfl : _ = Value.pointer (some ⟨_, _, _⟩)); (exact (rfl : _ = Value.int _ _)); (exact (rfl : _ = some (_, 1))); omega; omega; omega)
              | ((with_reducible apply r_move); rfl; rfl; (exact (rfl : _ = Value.int _ _)))
              | ((with_reducible apply r_assign); rfl; rfl; (exact (rfl : _ = Value.int _ _)))
              | ((with_reducible apply r_bin); rfl; rfl; (exact (rfl : _ = Value.int _ _)); (exact (rfl : _ = Value.int _ _)); (first
              | with_reducible exact lss_t (by omega)
              | with_reducible exact bin_add rfl (by omega) (by omega)
              | with_reducible exact bin_sub rfl (by omega) (by omega)
              | with_reducible exact bin_mul rfl (by omega) (by omega)
              | with_reducible exact shr32 (by omega)
              | with_reducible exact quo_i (by omega) (by omega) (by omega)
              | with_reducible exact rem_p (by omega) (by omega)))
              | ((with_reducible apply r_conv); rfl; rfl; (exact (rfl : _ = Value.int _ _)); (exact conv8 rfl rfl (by first | exact ofI_set _ | rfl)))
              | ((with_reducible apply r_fieldAddr); rfl; rfl; exact (rfl : _ = Value.pointer (some ⟨_, _, _⟩)); (exact (rfl : _ = some 0)); (exact Nat.zero_add _))
              | ((with_reducible apply r_load); rfl; rfl; exact (rfl : _ = Value.pointer (some ⟨_, _, _⟩)); (exact loadA_rowA rfl rfl rfl (by omega) (fun _ => rfl)))
              | ((with_reducible apply r_store); rfl; exact (rfl : _ = Value.pointer (some ⟨_, _, _⟩)); (exact (rfl : _ = Value.int _ _)); (exact storeD_row rfl rfl rfl rfl rfl (by omega) rfl rfl); exact (rfl : _ = _ :: _))
              | with_reducible refine r_doneN ?_
              | with_reducible refine c_reg ?_
              | with_reducible refine c_seq ?_
              | with_reducible refine c_block ?_
              | with_reducible refine c_skip ?_
              | with_reducible refine x_then ?_
              | with_reducible refine x_blockN ?_
              | ((with_reducible apply c_true); rfl))
            refine x_round ⟨x + 1, by omega, by omega, ?_⟩
            refine weak_to (n := 6) rfl ?_ rfl rfl
            repeat (first | exact trivial | refine ⟨.inl rfl, ?_⟩ | refine ⟨.inr ⟨rfl, rfl⟩, ?_⟩)
            · obtain rfl : x = 32 := by omega
              repeat (first
                | ((with_reducible apply r_bin); rfl; rfl; (exact (rfl : _ = Value.int _ _)); (exact (rfl : _ = Value.int _ _)); (with_reducible exact lss_f (by omega)))
                | ((with_reducible apply r_load); rfl; rfl; exact (rfl : _ = Value.pointer (some ⟨_, _, _⟩)); (exact (rfl : _ = some (Value.agg _))))
                | ((with_reducible apply r_store); rfl; exact (rfl : _ = Value.pointer (some ⟨_, _, _⟩)); (exact (rfl : _ = Value.agg _)); (rfl); exact (rfl : _ = _ :: _))
                | with_reducible refine r_doneN ?_
                | with_reducible refine c_reg ?_
                | with_reducible refine c_seq ?_
                | with_reducible refine c_exit ?_
                | with_reducible refine c_ret ?_
                | with_reducible refine x_then ?_
                | with_reducible refine x_thenE ?_
                | with_reducible refine x_leaveE ?_
                | ((with_reducible apply c_false); rfl)
                | ((with_reducible apply x_block); rfl))
              refine x_end ?_
              refine end_same (v := .agg (rowE w8 32 (shaDs V 32)).toArray) rfl rfl rfl rfl ?_
              subst hMi
              rw [hS] at hV
              subst hV
              exact argV_pure (pure_row fun _ => rfl) rfl
end Go.Flat
end
section
set_option linter.unusedVariables false
set_option maxRecDepth 20000
namespace Go.Flat
open Go.Proofs
variable {G : Glob}
abbrev dgV (d : Nat → BitVec 8) : Value := .agg (rowE w8 32 d).toArray
def dgL (d : Nat → BitVec 8) : Bs := (List.range 32).map d
theorem dgL_row (d : Nat → BitVec 8) : rowE w8 32 d = (dgL d).map w8 := by simp [rowE, dgL]
theorem dgL_len (d : Nat → BitVec 8) : (dgL d).length = 32 := by simp [dgL]
def one1 : ByteArray := ⟨#[1]⟩
def knotF (kk : Nat → BitVec 32) (a b : Nat → BitVec 8) : Nat → BitVec 8 := shaOf kk (msgOf [one1, strOf (dgL a), strOf (dgL b)])
end Go.Flat
end
section
set_option linter.unusedVariables false
set_option maxRecDepth 20000
namespace Go.Flat
open Go.Proofs
variable {G : Glob}
end Go.Flat
end
section
set_option linter.unusedVariables false
set_option maxRecDepth 20000
namespace Go.Flat
open Go.Proofs
variable {G : Glob}
def splitF (n : Int) : Int := if n < 2 then 0 else 2 ^ (bitLen (n - 1).toNat - 1)
end Go.Flat
end
section
set_option linter.unusedVariables false
set_option maxRecDepth 20000
namespace Go.Flat
open Go.Proofs
variable {G : Glob}
end Go.Flat
end
section
set_option linter.unusedVariables false
set_option maxRecDepth 20000
namespace Go.Flat
open Go.Proofs
variable {G : Glob}
abbrev D := Nat → BitVec 8
def dsC (ds : List D) : List Value := (ds.map (rowE w8 32)).flatten
def dsB (ds : List D) : Blk := { cells := dsC ds, sz := 32, wr := true, fix := false, mv := true, pur := true }
def dsR (ds : List D) : Blk := { cells := dsC ds, sz := 32, wr := false, fix := false, mv := true, pur := true }
def varB (v : Value) : Blk := { cells := [v], sz := 1, wr := true, fix := true, mv := false, pur := false }
end Go.Flat
end
section
set_option linter.unusedVariables false
set_option maxRecDepth 20000
namespace Go.Flat
open Go.Proofs
variable {G : Glob}
def d0 : D := fun _ => 0
def knotL (kk : Nat → BitVec 32) (P : List D) : List D := P.take (P.length - 2) ++ [knotF kk (P.getD (P.length - 2) d0) (P.getD (P.length - 1) d0)]
def knotN (kk : Nat → BitVec 32) : Nat → List D → List D
  | 0, P => P
  | n + 1, P => knotL kk (knotN kk n P)
def peakI (kk : Nat → BitVec 32) (ds : List D) : Nat → List D
  | 0 => []
  | i + 1 => knotN kk (tz (i + 1)) (peakI kk ds i ++ [ds.getD i d0])
def rootI (kk : Nat → BitVec 32) (ds : List D) : D := if ds.length = 0 then shaOf kk [] else (knotN kk (lenP ds.length - 1) (peakI kk ds ds.length)).getD 0 d0
end Go.Flat
end
section
set_option linter.unusedVariables false
set_option maxRecDepth 20000
namespace Go.Flat
open Go.Proofs
variable {G : Glob}
end Go.Flat
end
section
set_option linter.unusedVariables false
set_option maxRecDepth 20000
namespace Go.Flat
open Go.Proofs
variable {G : Glob}
def sameDs (us vs : List D) : Bool := us.length == vs.length && (List.range us.length).all fun i => sameB 32 (us.getD i d0) (vs.getD i d0)
end Go.Flat
end
section
set_option linter.unusedVariables false
set_option maxRecDepth 20000
namespace Go.Flat
open Go.Proofs
variable {G : Glob}
def revN (P : List D) : Nat → List D
  | 0 => P
  | i + 1 => ((revN P i).set i ((revN P i).getD (P.length - 1 - i) d0)).set (P.length - 1 - i) ((revN P i).getD i d0)
def dsM (b : Bool) (ds : List D) : Blk := { cells := dsC ds, sz := 32, wr := true, fix := false, mv := b, pur := true }
end Go.Flat
end
section
set_option linter.unusedVariables false
set_option maxRecDepth 20000
namespace Go.Flat
open Go.Proofs
variable {G : Glob}
def inclN (kk : Nat → BitVec 32) (f : Nat) (l : List D) (i : Nat) (down : List D) : List D :=
  match f with
  | 0 => down
  | f + 1 => if l.length ≤ 1 then down else
      let k := (splitF l.length).toNat
      if i < k then inclN kk f (l.take k) i (down ++ [rootI kk (l.drop k)]) else inclN kk f (l.drop k) (i - k) (down ++ [rootI kk (l.take k)])
theorem splitF_pos {n : Nat} (h : 2 ≤ n) : 1 ≤ (splitF n).toNat ∧ (splitF n).toNat < n ∧ splitF n = ((splitF n).toNat : Int) := by
  unfold splitF
  rw [if_neg (by omega)]
  have hb : ((n : Int) - 1).toNat = n - 1 := by omega
  rw [hb]
  have h0 : n - 1 ≠ 0 := by omega
  have e : bitLen (n - 1) - 1 = (n - 1).log2 := by unfold bitLen; rw [if_neg h0]; rfl
  rw [e]
  have h1 := Nat.log2_self_le h0
  have h2 : (2 : Int) ^ (n - 1).log2 = ((2 ^ (n - 1).log2 : Nat) : Int) := by simp
  have h3 : 0 < 2 ^ (n - 1).log2 := Nat.pow_pos (by decide)
  rw [h2, Int.toNat_natCast]
  refine ⟨h3, by omega, rfl⟩
end Go.Flat
end
section
set_option linter.unusedVariables false
set_option maxRecDepth 20000
namespace Go.Flat
open Go.Proofs
variable {G : Glob}
def sub (ds : List D) (o m : Nat) : List D := (ds.drop o).take m
structure IncS where
  o : Nat
  m : Nat
  cap : Nat
  i : Nat
  f : Nat
  down : List D
end Go.Flat
end
section
set_option linter.unusedVariables false
set_option maxRecDepth 20000
namespace Go.Flat
open Go.Proofs
variable {G : Glob}
end Go.Flat
end
section
set_option linter.unusedVariables false
set_option maxRecDepth 20000
namespace Go.Flat
open Go.Proofs
variable {G : Glob}
def consN (kk : Nat → BitVec 32) (f : Nat) (l : List D) (m : Nat) (kn : Bool) (down : List D) : List D :=
  match f with
  | 0 => if kn then down else down ++ [rootI kk l]
  | f + 1 => if l.length ≤ m then (if kn then down else down ++ [rootI kk l]) else
      let k := (splitF l.length).toNat
      if m ≤ k then consN kk f (l.take k) m kn (down ++ [rootI kk (l.drop k)]) else consN kk f (l.drop k) (m - k) false (down ++ [rootI kk (l.take k)])
structure ConS where
  o : Nat
  m : Nat
  cap : Nat
  i : Nat
  kn : Bool
  f : Nat
  down : List D
end Go.Flat
end
section
set_option linter.unusedVariables false
set_option maxRecDepth 20000
namespace Go.Flat
open Go.Proofs
variable {G : Glob}
end Go.Flat
end
section
set_option linter.unusedVariables false
set_option maxRecDepth 20000
namespace Go.Flat
open Go.Proofs
variable {G : Glob}
def dg1 (k : Nat) : D := fun i => if i = 0 then BitVec.ofNat 8 k else 0
theorem sameB_refl (n : Nat) (a : D) : sameB n a a = true := by simp [sameB]
end Go.Flat
end
