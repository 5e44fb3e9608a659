/- Walks and plain laws: what each theorem says, within the bounds that it names. -/
import Derived.Test.YtnifcpffloojcaaDoorK6
set_option linter.unusedVariables false
set_option linter.unusedSimpArgs false
set_option maxRecDepth 20000
namespace Go.Flat
open Go.Proofs
variable {G : Glob}
theorem WpS.weak {P : Program} {nt n0 : Nat} {c : Code} {Φ : Ent → Exit → Act → World → Prop} {s s' : St} (hw : Weak G nt n0 s s') (h : WpS P G nt n0 c Φ s') : WpS P G nt n0 c Φ s :=
  fun E m a w hE h0 hr => let ⟨m', h1⟩ := hw E m a w h0 hr; h E m' a w hE h0 h1
theorem emb_stp {H : List Blk} {e : Emb} {id : Nat} {l : List Stp} (hB : H[id]? = some (stpB l)) : embOneM H e (some (id, 0)) (stpR l) :=
  emb_ro hB rfl (by show 0 + (stpC _).length ≤ (stpC _).length; omega) (by show ((stpC l).drop 0).take (stpC l).length = stpC l; simp)
def eB (z : Int) : Blk := { cells := [.int .i64 z], sz := 1, wr := true, fix := true, mv := false, pur := true }
def inclE (kk : Nat → BitVec 32) (root leaf : D) (size index : Int) (ds : List D) : Int :=
  if size < 1 ∨ 100000 < size ∨ index < 0 ∨ size ≤ index then 40 else
    match wayF size.toNat index.toNat ds with
    | none => 40
    | some l => if sameB 32 ((knA kk leaf l).getD 0 d0) root then 0 else 41
set_option maxRecDepth 20000 in
set_option maxHeartbeats 8000000 in
theorem Included_ok (kk : Nat → BitVec 32) (hG : G 3 = some (rowE w32 64 kk)) (root leaf : D) (size index : Int) (ds : List D) (n c : Nat) (hn : ds.length = n) (hb : n ≤ 1000) (hc : n ≤ c)
    (s1 : -9223372036854775808 ≤ size) (s2 : size ≤ 9223372036854775807) (i1 : -9223372036854775808 ≤ index) (i2 : index ≤ 9223372036854775807) :
    CallL Tryd.prog G 28 [dgV root, .int .i64 size, .int .i64 index, dgV leaf, slv 0 0 n c] [dsR ds] (.int .i64 (inclE kk root leaf size index ds)) [dsR ds] := by
  refine CallL.introS (fn := Tryd.f28) rfl rfl (show 5 ≤ 42 by decide) ?_
  refine WpS.seqL (K := fun s => Weak G 42 1 s ⟨Tl [dead, .int .i64 size, .int .i64 index, dead, slv 0 0 n c, pt 1 0, dead, dead, pt 2 0, dead, pt 3 0], [dsR ds, dgB root, dgB leaf, eB 0]⟩) (C.h ?_) fun s hs => WpS.weak hs ?_
  · change C Tryd.prog G 42 1 _ _ _
    refine c_hole 3 (H' := [dsR ds, hole, hole, hole]) rfl ?_
    repeat (first
      | ((with_reducible apply r_box (nid := 1)); rfl; rfl; (exact (rfl : _ = Value.agg _)); rfl; exact (rfl : _ = _ :: _))
      | ((with_reducible apply r_box (nid := 2)); rfl; rfl; (exact (rfl : _ = Value.agg _)); rfl; exact (rfl : _ = _ :: _))
      | ((with_reducible apply r_alloc (nid := 3)); rfl; rfl; rfl; exact (rfl : _ = _ :: _))
      | with_reducible refine r_doneN ?_
      | with_reducible refine c_reg ?_)
    refine x_round ?_
    refine weak_to (n := 4) rfl ?_ (by kernel_rfl) ?_
    repeat (first | exact trivial | refine ⟨.inl rfl, ?_⟩ | refine ⟨.inr ⟨rfl, rfl⟩, ?_⟩)
    · simp [dsR, dgB, eB]
  · by_cases hbad : size < 1 ∨ 100000 < size ∨ index < 0 ∨ size ≤ index
    · rw [show inclE kk root leaf size index ds = 40 from by unfold inclE; rw [if_pos hbad]]
      refine WpS.seqL (K := fun _ => False) (C.h ?_) fun s hs => hs.elim
      have hend : ∀ T : Nat → Value, T 10 = pt 3 0 → ∃ v e, EndOK Tryd.prog G Tryd.f28 [dsR ds] (.int .i64 40) [dsR ds] ⟨T, [dsR ds, dgB root, dgB leaf, eB 40]⟩ v e := by
        intro T hT
        refine end_same (v := .int .i64 40) ?_ rfl rfl (dsR_kept ds) rfl
        show loadA Tryd.prog G 27 [dsR ds, dgB root, dgB leaf, eB 40] (T 10) = _
        rw [hT]
        rfl
      change C Tryd.prog G 42 1 _ _ _
      by_cases b1 : size < 1
      repeat (first
        | ((with_reducible apply r_move); rfl; rfl; (first
        | exact (rfl : _ = Value.int _ _)
        | exact (rfl : _ = Value.bool _)))
        | ((with_reducible apply r_bin); rfl; rfl; (exact (rfl : _ = Value.int _ _)); (exact (rfl : _ = Value.int _ _)); (with_reducible exact lss_t (by omega)))
        | ((with_reducible apply r_pick); rfl; rfl; (exact (rfl : _ = some (Value.bool _))))
        | ((with_reducible apply r_store); rfl; exact (rfl : _ = Value.pointer (some ⟨_, _, _⟩)); (exact (rfl : _ = Value.int _ _)); (rfl); exact (rfl : _ = _ :: _))
        | ((with_reducible apply r_skip); rfl; rfl)
        | with_reducible refine r_doneN ?_
        | with_reducible refine c_reg ?_
        | with_reducible refine c_seq ?_
        | with_reducible refine c_ret ?_
        | with_reducible refine x_then ?_
        | with_reducible refine x_leaveR ?_
        | ((with_reducible apply c_true); rfl))
      refine x_end ?_
      exact hend _ rfl
      · by_cases b2 : 100000 < size
        repeat (first
          | ((with_reducible apply r_move); rfl; rfl; (first
          | exact (rfl : _ = Value.int _ _)
          | exact (rfl : _ = Value.bool _)))
          | ((with_reducible apply r_bin); rfl; rfl; (exact (rfl : _ = Value.int _ _)); (exact (rfl : _ = Value.int _ _)); (first
          | with_reducible exact lss_f (by omega)
          | with_reducible exact gtr_t (by omega)))
          | ((with_reducible apply r_pick); rfl; rfl; (exact (rfl : _ = some (Value.bool _))))
          | ((with_reducible apply r_store); rfl; exact (rfl : _ = Value.pointer (some ⟨_, _, _⟩)); (exact (rfl : _ = Value.int _ _)); (rfl); exact (rfl : _ = _ :: _))
          | ((with_reducible apply r_skip); rfl; rfl)
          | with_reducible refine r_doneN ?_
          | with_reducible refine c_reg ?_
          | with_reducible refine c_seq ?_
          | with_reducible refine c_ret ?_
          | with_reducible refine x_then ?_
          | with_reducible refine x_leaveR ?_
          | ((with_reducible apply c_true); rfl))
        refine x_end ?_
        exact hend _ rfl
        · by_cases b3 : index < 0
          repeat (first
            | ((with_reducible apply r_move); rfl; rfl; (first
            | exact (rfl : _ = Value.int _ _)
            | exact (rfl : _ = Value.bool _)))
            | ((with_reducible apply r_bin); rfl; rfl; (exact (rfl : _ = Value.int _ _)); (exact (rfl : _ = Value.int _ _)); (first
            | with_reducible exact lss_t (by omega)
            | with_reducible exact lss_f (by omega)
            | with_reducible exact gtr_f (by omega)))
            | ((with_reducible apply r_pick); rfl; rfl; (exact (rfl : _ = some (Value.bool _))))
            | ((with_reducible apply r_store); rfl; exact (rfl : _ = Value.pointer (some ⟨_, _, _⟩)); (exact (rfl : _ = Value.int _ _)); (rfl); exact (rfl : _ = _ :: _))
            | ((with_reducible apply r_skip); rfl; rfl)
            | with_reducible refine r_doneN ?_
            | with_reducible refine c_reg ?_
            | with_reducible refine c_seq ?_
            | with_reducible refine c_ret ?_
            | with_reducible refine x_then ?_
            | with_reducible refine x_leaveR ?_
            | ((with_reducible apply c_true); rfl))
          refine x_end ?_
          exact hend _ rfl
          · have b4 : size ≤ index := by omega
            repeat (first
              | ((with_reducible apply r_move); rfl; rfl; (first
              | exact (rfl : _ = Value.int _ _)
              | exact (rfl : _ = Value.bool _)))
              | ((with_reducible apply r_bin); rfl; rfl; (exact (rfl : _ = Value.int _ _)); (exact (rfl : _ = Value.int _ _)); (first
              | with_reducible exact lss_f (by omega)
              | with_reducible exact gtr_f (by omega)
              | with_reducible exact geq_t (by omega)))
              | ((with_reducible apply r_pick); rfl; rfl; (exact (rfl : _ = some (Value.bool _))))
              | ((with_reducible apply r_store); rfl; exact (rfl : _ = Value.pointer (some ⟨_, _, _⟩)); (exact (rfl : _ = Value.int _ _)); (rfl); exact (rfl : _ = _ :: _))
              | with_reducible refine r_doneN ?_
              | with_reducible refine c_reg ?_
              | with_reducible refine c_seq ?_
              | with_reducible refine c_ret ?_
              | with_reducible refine x_then ?_
              | with_reducible refine x_leaveR ?_
              | ((with_reducible apply c_true); rfl))
            refine x_end ?_
            exact hend _ rfl
    · refine WpS.seqL (K := fun s => Weak G 42 1 s ⟨Tl [dead, .int .i64 size, .int .i64 index, dead, slv 0 0 n c, pt 1 0, dead, dead, pt 2 0, dead, pt 3 0], [dsR ds, dgB root, dgB leaf, eB 0]⟩) (C.h ?_) fun s hs => WpS.weak hs ?_
      · change C Tryd.prog G 42 1 _ _ _
        repeat (first
          | ((with_reducible apply r_move); rfl; rfl; (first
          | exact (rfl : _ = Value.int _ _)
          | exact (rfl : _ = Value.bool _)))
          | ((with_reducible apply r_bin); rfl; rfl; (exact (rfl : _ = Value.int _ _)); (exact (rfl : _ = Value.int _ _)); (first
          | with_reducible exact lss_f (by omega)
          | with_reducible exact gtr_f (by omega)
          | with_reducible exact geq_f (by omega)))
          | ((with_reducible apply r_pick); rfl; rfl; (exact (rfl : _ = some (Value.bool _))))
          | with_reducible refine r_doneN ?_
          | with_reducible refine c_reg ?_
          | with_reducible refine c_seq ?_
          | with_reducible refine c_skip ?_
          | with_reducible refine x_then ?_
          | ((with_reducible apply c_false); rfl))
        refine x_round ?_
        refine weak_to (n := 4) rfl ?_ rfl ?_
        repeat (first | exact trivial | refine ⟨.inl rfl, ?_⟩ | refine ⟨.inr ⟨rfl, rfl⟩, ?_⟩)
        · simp [dsR, dgB, eB]
      · refine WpS.deferC (pre := []) (K := fun s => s = _) rfl rfl rfl rfl rfl caught_ok rfl ?_
        rintro s1 rfl
        refine ⟨3, eB 0, rfl, rfl, by show 0 < 1; decide, rfl, C.h ?_⟩
        obtain ⟨sz, rfl⟩ : ∃ m : Nat, size = m := ⟨size.toNat, by omega⟩
        obtain ⟨ix, rfl⟩ : ∃ m : Nat, index = m := ⟨index.toNat, by omega⟩
        change C Tryd.prog G 42 4 _ _ ⟨Tl [dead, .int .i64 (sz : Nat), .int .i64 (ix : Nat), dead, slv 0 0 n c, pt 1 0, dead, dead, pt 2 0, dead, pt 3 0], [dsR ds, dgB root, dgB leaf, eB 0]⟩
        have hE : inclE kk root leaf sz ix ds = (match wayF sz ix ds with | none => 40 | some l => if sameB 32 ((knA kk leaf l).getD 0 d0) root then 0 else 41) := by
          unfold inclE; rw [if_neg hbad]; rfl
        cases hw : wayF sz ix ds with
        | none =>
          rw [hw] at hE
          dsimp only at hE
          rw [hE]
          have hP := way_pan (G := G) sz ix ds n c hn hb hc (by omega) (by omega) hw
          with_reducible refine c_seq ?_
          with_reducible refine c_seq ?_
          refine c_drawPn 4 (by kernel_rfl) rfl (rfl : _ = [_, _, _, _]) (by kernel_rfl) (foot := [0]) ?_
          repeat (first
            | ((with_reducible apply r_load); rfl; rfl; exact (rfl : _ = Value.pointer (some ⟨2, _, _⟩)); exact (show _ = some (dgV leaf) by kernel_rfl))
            | ((with_reducible apply r_move); rfl; rfl; (first
            | exact (rfl : _ = Value.int _ _)
            | exact (rfl : _ = Value.slice _ _ _))))
          refine r_done ⟨by kernel_rfl, lp_call (e := [some (0, 0)]) hP rfl rfl rfl rfl rfl rfl rfl rfl ⟨rfl, rfl, ⟨rfl, rfl, rfl, by omega, by omega⟩, trivial⟩ ⟨emb_ro rfl rfl (by show 0 + (dsC _).length ≤ (dsC _).length; omega) (dsC_whole _), trivial⟩, by kernel_rfl, fun u v => ?_⟩
          repeat (first | with_reducible refine x_thenP ?_ | with_reducible refine x_blockP ?_ | with_reducible refine x_leaveP ?_)
          obtain ⟨v', e', hO⟩ : ∃ v e, EndOK Tryd.prog G Tryd.f28 [dsR ds] (.int .i64 40) [dsR ds] ⟨deadT [29, 30, 31, 32] (Tl [dead, .int .i64 (sz : Nat), .int .i64 (ix : Nat), dead, slv 0 0 n c, pt 1 0, dead, dead, pt 2 0, dead, pt 3 0]), [dsR ds, dgB root, dgB leaf, eB 40]⟩ v e := end_same (v := .int .i64 40) rfl rfl rfl (dsR_kept ds) rfl
          exact ⟨⟨⟨u, v, rfl⟩, v', e', eB 40, rfl, hO⟩⟩
        | some l =>
          rw [hw] at hE
          dsimp only at hE
          rw [hE]
          have hll := wayF_len 17 sz ix ds l (by omega) hw
          have hW := way_ok (G := G) sz ix ds n c l hn hb hc (by omega) (by omega) hw
          have hKn := knots_ok (G := G) kk hG leaf l l.length l.length rfl (by omega) (Nat.le_refl _)
          have hAl := knA_len kk leaf l
          have hAt := dsC_atI (knA kk leaf l) 0 (by omega)
          generalize (knA kk leaf l).getD 0 d0 = x at *
          generalize knA kk leaf l = A at *
          generalize knT kk leaf l = TS at *
          generalize hq : l.length = q at *
          have hcA : (dsB A).cells.length = (q + 1) * 32 := by show (dsC A).length = _; rw [dsC_len, hAl]
          refine c_hole 3 (H' := [dsR ds, dgB root, dgB leaf, eB 0, hole, hole, hole]) rfl ?_
          cases hs : sameB 32 x root with
          | true =>
            repeat (first
              | ((with_reducible apply r_load); rfl; rfl; exact (rfl : _ = Value.pointer (some ⟨2, _, _⟩)); exact (show _ = some (dgV leaf) by kernel_rfl))
              | ((with_reducible apply r_load); rfl; rfl; exact (rfl : _ = Value.pointer (some ⟨1, _, _⟩)); exact (show _ = some (dgV root) by kernel_rfl))
              | ((with_reducible apply r_callN (e := [some (0, 0)]) (nid := 4) hW); rfl; rfl; rfl; rfl; rfl; rfl; rfl; refine ⟨⟨rfl, rfl, ⟨rfl, rfl, rfl, by omega, by omega⟩, trivial⟩, ⟨emb_ro rfl rfl (by show 0 + (dsC _).length ≤ (dsC _).length; omega) (dsC_whole _), trivial⟩, rfl, rfl, rfl⟩; exact (show _ = slv 4 0 q q by kernel_rfl); exact (show _ = [dsR ds, dgB root, dgB leaf, eB 0, stpB l, hole, hole] by kernel_rfl))
              | ((with_reducible apply r_callN (e := [some (4, 0)]) (nid := 5) hKn); rfl; rfl; rfl; rfl; rfl; rfl; rfl; refine ⟨⟨rfl, ⟨rfl, rfl, rfl, by omega, by omega⟩, trivial⟩, ⟨emb_stp rfl, trivial⟩, rfl, rfl, rfl⟩; exact (show _ = Value.tuple #[slv 5 0 (q + 1) (q + 1), slv 6 0 q q] by kernel_rfl); exact (show _ = [dsR ds, dgB root, dgB leaf, eB 0, stpB l, dsB A, txB TS] by kernel_rfl))
              | ((with_reducible apply r_load); rfl; rfl; exact (rfl : _ = Value.pointer (some ⟨5, _, _⟩)); exact (show _ = some (dgV x) from loadA_agg (n := 32) rfl rfl (by omega) hAt))
              | ((with_reducible apply r_bin); rfl; rfl; exact (rfl : _ = Value.agg _); exact (rfl : _ = Value.agg _); refine Eq.trans (neq_dg (a := x) (b := root) (by kernel_rfl) rfl rfl rfl) ?_; rw [hs])
              | ((with_reducible apply r_idxS (j := 0 * 32)); rfl; rfl; exact (rfl : _ = Value.slice (some ⟨_, _, _⟩) _ _); (exact (rfl : _ = Value.int _ _)); (exact (rfl : _ = some (_, 32))); omega; omega; omega)
              | ((with_reducible apply r_move); rfl; rfl; (first
              | exact (rfl : _ = Value.int _ _)
              | exact (rfl : _ = Value.slice _ _ _)
              | exact (rfl : _ = Value.tuple _)))
              | ((with_reducible apply r_assign); rfl; rfl; (exact (rfl : _ = Value.slice _ _ _)))
              | ((with_reducible apply r_extract); rfl; rfl; rfl; (exact (rfl : _ = some (Value.slice _ _ _))))
              | ((with_reducible apply r_store); rfl; exact (rfl : _ = Value.pointer (some ⟨_, _, _⟩)); (exact (rfl : _ = Value.int _ _)); (rfl); exact (rfl : _ = _ :: _))
              | with_reducible refine r_doneN ?_
              | with_reducible refine c_reg ?_
              | with_reducible refine c_seq ?_
              | with_reducible refine c_skip ?_
              | with_reducible refine c_ret ?_
              | with_reducible refine x_then ?_
              | (with_reducible refine r_doneD (by kernel_rfl) ?_)
              | (with_reducible refine c_draw (by kernel_rfl) ?_)
              | ((with_reducible apply c_false); rfl))
            exact ⟨end_same (v := .int .i64 0) rfl rfl rfl (dsR_kept ds) rfl⟩
          | false =>
            repeat (first
              | ((with_reducible apply r_load); rfl; rfl; exact (rfl : _ = Value.pointer (some ⟨2, _, _⟩)); exact (show _ = some (dgV leaf) by kernel_rfl))
              | ((with_reducible apply r_load); rfl; rfl; exact (rfl : _ = Value.pointer (some ⟨1, _, _⟩)); exact (show _ = some (dgV root) by kernel_rfl))
              | ((with_reducible apply r_callN (e := [some (0, 0)]) (nid := 4) hW); rfl; rfl; rfl; rfl; rfl; rfl; rfl; refine ⟨⟨rfl, rfl, ⟨rfl, rfl, rfl, by omega, by omega⟩, trivial⟩, ⟨emb_ro rfl rfl (by show 0 + (dsC _).length ≤ (dsC _).length; omega) (dsC_whole _), trivial⟩, rfl, rfl, rfl⟩; exact (show _ = slv 4 0 q q by kernel_rfl); exact (show _ = [dsR ds, dgB root, dgB leaf, eB 0, stpB l, hole, hole] by kernel_rfl))
              | ((with_reducible apply r_callN (e := [some (4, 0)]) (nid := 5) hKn); rfl; rfl; rfl; rfl; rfl; rfl; rfl; refine ⟨⟨rfl, ⟨rfl, rfl, rfl, by omega, by omega⟩, trivial⟩, ⟨emb_stp rfl, trivial⟩, rfl, rfl, rfl⟩; exact (show _ = Value.tuple #[slv 5 0 (q + 1) (q + 1), slv 6 0 q q] by kernel_rfl); exact (show _ = [dsR ds, dgB root, dgB leaf, eB 0, stpB l, dsB A, txB TS] by kernel_rfl))
              | ((with_reducible apply r_load); rfl; rfl; exact (rfl : _ = Value.pointer (some ⟨5, _, _⟩)); exact (show _ = some (dgV x) from loadA_agg (n := 32) rfl rfl (by omega) hAt))
              | ((with_reducible apply r_bin); rfl; rfl; exact (rfl : _ = Value.agg _); exact (rfl : _ = Value.agg _); refine Eq.trans (neq_dg (a := x) (b := root) (by kernel_rfl) rfl rfl rfl) ?_; rw [hs])
              | ((with_reducible apply r_idxS (j := 0 * 32)); rfl; rfl; exact (rfl : _ = Value.slice (some ⟨_, _, _⟩) _ _); (exact (rfl : _ = Value.int _ _)); (exact (rfl : _ = some (_, 32))); omega; omega; omega)
              | ((with_reducible apply r_move); rfl; rfl; (first
              | exact (rfl : _ = Value.int _ _)
              | exact (rfl : _ = Value.slice _ _ _)
              | exact (rfl : _ = Value.tuple _)))
              | ((with_reducible apply r_assign); rfl; rfl; (exact (rfl : _ = Value.slice _ _ _)))
              | ((with_reducible apply r_extract); rfl; rfl; rfl; (exact (rfl : _ = some (Value.slice _ _ _))))
              | ((with_reducible apply r_store); rfl; exact (rfl : _ = Value.pointer (some ⟨_, _, _⟩)); (exact (rfl : _ = Value.int _ _)); (rfl); exact (rfl : _ = _ :: _))
              | with_reducible refine r_doneN ?_
              | with_reducible refine c_reg ?_
              | with_reducible refine c_seq ?_
              | with_reducible refine c_ret ?_
              | with_reducible refine x_then ?_
              | with_reducible refine x_thenR ?_
              | (with_reducible refine r_doneD (by kernel_rfl) ?_)
              | (with_reducible refine c_draw (by kernel_rfl) ?_)
              | ((with_reducible apply c_true); rfl))
            exact ⟨end_same (v := .int .i64 41) rfl rfl rfl (dsR_kept ds) rfl⟩
end Go.Flat
