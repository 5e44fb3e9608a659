/- Walks. -/
import Derived.Test.YtoheeojjdpdljaaDoorH34
import Derived.Test.YtoheeojjdpdljaaDoorH30
set_option linter.unusedVariables false
set_option linter.unusedSimpArgs false
set_option maxRecDepth 20000
namespace Go.Flat
open Go.Proofs
variable {G : Glob}
theorem Zjg {l : Bs} {M n : Nat} (h : l.length ≤ M) (i : Nat) : ((Ze l n).1.getD i ⟨#[]⟩).size ≤ M := by
 unfold Ze
 split
 ·exact Zxl h i
 ·exact Nat.zero_le _
theorem Zyi (l : Bs) (n c : Nat) (hn : l.length = n) (hc : n ≤ c) (hb : n ≤ 1099511627776) (hcc : c ≤ 9223372036854775807) : Zao Tryd.prog G 96 [slv 0 0 n c] [rdB l] (.tuple #[Zbf (Zax l).1, Iv (Zax l).2]) [rdB l] := by
 subst hn; exact Z0r l c hc hb hcc
theorem Zzw {l : Bs} (h : (Zb9 l).2 ≠ 0) : Zb9 l = (⟨⟨0, 0, 0, dz, 0⟩, 0, dz⟩, 70) := by
 unfold Zb9 at h ⊢
 generalize ofF l = p at h ⊢
 split at h
 ·rename_i q1
  rw [if_pos q1]
  split at h
  ·rename_i q2; rw [if_pos q2]
  ·rename_i q2
   rw [if_neg q2]
   split at h
   ·rename_i q3; rw [if_pos q3]
   ·rename_i q3
    rw [if_neg q3]
    split at h
    ·rename_i q4
     rw [if_pos q4]
     split at h
     ·exact absurd rfl h
     ·rename_i q5; rw [if_neg q5]
    ·rename_i q4; rw [if_neg q4]
 ·rename_i q1; rw [if_neg q1]
def Zsq (ls : List ByteArray) : Signed := ⟨(Zax (bl (ls.getD 0 ⟨#[]⟩))).1, vR (ls.getD 1 ⟨#[]⟩), (Zav (ls.getD 2 ⟨#[]⟩)).1⟩
theorem Zzy {l : Bs} (h1 : (Ze l 3).2 = true) (h0 : (Zax (bl ((Ze l 3).1.getD 0 ⟨#[]⟩))).2 = 0) (h2 : (Zav ((Ze l 3).1.getD 2 ⟨#[]⟩)).2 = true) (h3 : Zfy (Zsq (Ze l 3).1)) : Zb9 l = (Zsq (Ze l 3).1, 0) := by
 obtain ⟨q1, q2⟩ := Zfz h1
 generalize (Ze l 3).1 = ls at *
 match ls, q1 with
 | [a, b, c], _ =>
  obtain ⟨d1, d2⟩ := Zvl h2
  have r1 : 1 ≤ vR b ∧ vR b ≤ 3 := h3.2
  have v1 := Ziq (s := b) (by omega)
  have e2 : (Zav c).1 = cpD c := d2
  have hh : Zax (bl a) = ((Zax (bl a)).1, 0) := Prod.ext rfl h0
  have := Zol q2 hh v1 d1 r1
  rw [this]
  show ((⟨(Zax (bl a)).1, vR b, cpD c⟩ : Signed), (0 : Int)) = (⟨(Zax (bl a)).1, vR b, (Zav c).1⟩, 0)
  rw [e2]
theorem Zdj {l : Bs} (h : (Ze l 3).2 = false ∨ (Zax (bl ((Ze l 3).1.getD 0 ⟨#[]⟩))).2 ≠ 0 ∨ (Zav ((Ze l 3).1.getD 2 ⟨#[]⟩)).2 = false ∨ ¬ Zfy (Zsq (Ze l 3).1)) : Zb9 l = (⟨⟨0, 0, 0, dz, 0⟩, 0, dz⟩, 70) := by
 refine Zzw fun e => ?_
 obtain ⟨a, b, c, h0, h1, h2, h4, h6, h7⟩ := Zzx e
 have hp := Zma h0
 rw [show [a, b, c].length = 3 from rfl] at hp
 rw [hp] at h
 have hd : Zav c = (cpD c, true) := if_pos h4
 have e5 : Zsq [a, b, c] = (Zb9 l).1 := by
  rw [h6]; show Signed.mk (Zax (bl a)).1 (vR b) (Zav c).1 = _
  rw [Zmz h2, hd]
 rcases h with h | h | h | h
 ·exact absurd (show true = false from h) (by decide)
 ·exact h h1
 ·rw [show ([a, b, c], true).1.getD 2 ⟨#[]⟩ = c from rfl, hd] at h; exact absurd (show true = false from h) (by decide)
 ·exact h (by rw [e5]; exact h7)
theorem Zpb {b : Bs} {n : Nat} (hn : b.length = n) : ((b ++ List.replicate 7 195#8).drop 0).take n = b := by
 rw [List.drop_zero, List.take_append_of_le_length (by omega), List.take_of_length_le (by omega)]
def cU8 : Cod (BitVec 8) := ⟨fun b => [w8 b], 1, fun _ => rfl, by decide⟩
theorem Z41 (l : Bs) : rwR cU8 l = rdB l := by
 unfold rwR rdB
 congr 1
 unfold Cod.row cU8
 induction l with
 | nil => rfl
 | cons x l ih => simp at ih ⊢; exact ih
theorem Zpk (l : Bs) (c : Nat) (hc : l.length ≤ c) (hb : l.length ≤ 1099511627776) (hcc : c ≤ 9223372036854775807) : Zao Tryd.prog G 82 [slv 0 0 l.length c] [rdB l] (.tuple #[Zaa (Zb9 l).1, Iv (Zb9 l).2]) [rdB l] := by
  refine Zbv (fn := Tryd.f82) (nt := 53) rfl rfl rfl rfl ?_
  refine Zat 6 (H' := [rdB l, hole, hole, hole, hole, hole, hole]) rfl ?_
  refine Zg (Zi ?_)
  refine Zae (b := bxB 69 (Z3 (⟨(⟨0, 0, 0, dz, 0⟩ : Head), 0, dz⟩ : Signed))) (nid := 1) (H' := [rdB l, bxB 69 (Z3 (⟨(⟨0, 0, 0, dz, 0⟩ : Head), 0, dz⟩ : Signed)), hole, hole, hole, hole, hole]) rfl rfl (by kernel_rfl) (by kernel_rfl) ?_
  refine Zb rfl rfl (Iv 0) rfl (Za (Zc (Zg (Zi (Zd rfl rfl (slv 0 0 l.length c) rfl ?_)))))
  refine Zad (e := [some (0, 0)]) (nid := 2) (Zkm (G := G) l c 3 hc hb hcc (by omega)) (vals := [slv 0 0 l.length c, Iv 3]) (v := .tuple #[slv 2 0 ((Ze l 3).1.length) ((Ze l 3).1.length), .bool ((Ze l 3).2)]) (H' := [rdB l, bxB 69 (Z3 (⟨(⟨0, 0, 0, dz, 0⟩ : Head), 0, dz⟩ : Signed)), txB ((Ze l 3).1), hole, hole, hole, hole]) rfl rfl rfl rfl rfl rfl rfl ⟨⟨⟨rfl, rfl, rfl, by omega, by omega⟩, rfl, trivial⟩, ⟨(Zdk rfl), trivial⟩, rfl, rfl, rfl⟩ (by kernel_rfl) (by kernel_rfl) ?_
  refine Zd rfl rfl (.tuple #[slv 2 0 ((Ze l 3).1.length) ((Ze l 3).1.length), .bool ((Ze l 3).2)]) rfl (Zt (vs := #[slv 2 0 ((Ze l 3).1.length) ((Ze l 3).1.length), .bool ((Ze l 3).2)]) (v := slv 2 0 ((Ze l 3).1.length) ((Ze l 3).1.length)) rfl rfl rfl rfl (Zt (vs := #[slv 2 0 ((Ze l 3).1.length) ((Ze l 3).1.length), .bool ((Ze l 3).2)]) (v := .bool ((Ze l 3).2)) rfl rfl rfl rfl (Zb rfl rfl (slv 2 0 ((Ze l 3).1.length) ((Ze l 3).1.length)) rfl (Zb rfl rfl (.bool ((Ze l 3).2)) rfl (Za (Zc (Zg (Zg (Zi (Zd rfl rfl (.bool ((Ze l 3).2)) rfl ?_))))))))))
  rcases Bool.eq_false_or_eq_true ((Ze l 3).2) with h1 | h1
  refine Zef (vx := .bool ((Ze l 3).2)) rfl rfl (.bool false) rfl (Eq.trans Zb1 (congrArg (fun b => some (Value.bool !b)) h1)) ?_
  refine Za (Zc (Zx rfl (Zai (Zc (Zg ?_)))))
  have hp5 := (Zfz (l := l) (n := 3) (by assumption)).1
  have hs40 := Zjg (n := 3) hb 0
  refine Zi (Zd rfl rfl (slv 2 0 ((Ze l 3).1.length) ((Ze l 3).1.length)) rfl ?_)
  refine Zbk (b := 2) (o := 0) (j := 0) (m := ((Ze l 3).1.length)) (c := ((Ze l 3).1.length)) (sz := 1) (i := 0) (k := .i64) rfl rfl rfl rfl rfl (by omega) (by omega) (by omega) ?_
  refine Zo (p := pt 2 0) (v := .string (((Ze l 3).1).getD 0 ⟨#[]⟩)) rfl rfl rfl (Zdv rfl rfl rfl (by omega)) ?_
  refine Zew (p := .string (((Ze l 3).1).getD 0 ⟨#[]⟩)) (v := slv 3 0 ((((Ze l 3).1).getD 0 ⟨#[]⟩).size) ((((Ze l 3).1).getD 0 ⟨#[]⟩).size)) (blk := Zy (bl (((Ze l 3).1).getD 0 ⟨#[]⟩))) (nid := 3) (H' := [rdB l, bxB 69 (Z3 (⟨(⟨0, 0, 0, dz, 0⟩ : Head), 0, dz⟩ : Signed)), txB ((Ze l 3).1), Zy (bl (((Ze l 3).1).getD 0 ⟨#[]⟩)), hole, hole, hole]) rfl rfl rfl (Zfq rfl rfl rfl) (by kernel_rfl) ?_
  have hsz5 := Zjg (n := 3) hb 0
  refine Zad (e := [some (3, 0)]) (nid := 0) (Zyi (G := G) (bl (((Ze l 3).1).getD 0 ⟨#[]⟩)) ((((Ze l 3).1).getD 0 ⟨#[]⟩).size) ((((Ze l 3).1).getD 0 ⟨#[]⟩).size) (Zb5 (((Ze l 3).1).getD 0 ⟨#[]⟩)) (by omega) hsz5 (by omega)) (vals := [slv 3 0 ((((Ze l 3).1).getD 0 ⟨#[]⟩).size) ((((Ze l 3).1).getD 0 ⟨#[]⟩).size)]) (v := .tuple #[Zbf ((Zax (bl (((Ze l 3).1).getD 0 ⟨#[]⟩))).1), Iv ((Zax (bl (((Ze l 3).1).getD 0 ⟨#[]⟩))).2)]) (H' := [rdB l, bxB 69 (Z3 (⟨(⟨0, 0, 0, dz, 0⟩ : Head), 0, dz⟩ : Signed)), txB ((Ze l 3).1), Zy (bl (((Ze l 3).1).getD 0 ⟨#[]⟩)), hole, hole, hole]) rfl rfl rfl rfl rfl rfl rfl ⟨⟨⟨rfl, rfl, rfl, by first | omega | exact Nat.le_refl _, by first | omega | exact Nat.le_refl _⟩, trivial⟩, ⟨(Ze1 rfl), trivial⟩, rfl, rfl, rfl⟩ (by kernel_rfl) (by kernel_rfl) ?_
  refine Zd rfl rfl (.tuple #[Zbf ((Zax (bl (((Ze l 3).1).getD 0 ⟨#[]⟩))).1), Iv ((Zax (bl (((Ze l 3).1).getD 0 ⟨#[]⟩))).2)]) rfl (Zt (vs := #[Zbf ((Zax (bl (((Ze l 3).1).getD 0 ⟨#[]⟩))).1), Iv ((Zax (bl (((Ze l 3).1).getD 0 ⟨#[]⟩))).2)]) (v := Zbf ((Zax (bl (((Ze l 3).1).getD 0 ⟨#[]⟩))).1)) rfl rfl rfl rfl (Zt (vs := #[Zbf ((Zax (bl (((Ze l 3).1).getD 0 ⟨#[]⟩))).1), Iv ((Zax (bl (((Ze l 3).1).getD 0 ⟨#[]⟩))).2)]) (v := Iv ((Zax (bl (((Ze l 3).1).getD 0 ⟨#[]⟩))).2)) rfl rfl rfl rfl ?_))
  refine Zae (b := bxB 36 (Zan (⟨0, 0, 0, dz, 0⟩ : Head))) (nid := 4) (H' := [rdB l, bxB 69 (Z3 (⟨(⟨0, 0, 0, dz, 0⟩ : Head), 0, dz⟩ : Signed)), txB ((Ze l 3).1), Zy (bl (((Ze l 3).1).getD 0 ⟨#[]⟩)), bxB 36 (Zan (⟨0, 0, 0, dz, 0⟩ : Head)), hole, hole]) rfl rfl (by kernel_rfl) (by kernel_rfl) ?_
  refine Zr (p := pt 4 0) (v := Zbf ((Zax (bl (((Ze l 3).1).getD 0 ⟨#[]⟩))).1)) (b := 4) (blk := bxB 36 (Zan ((Zax (bl (((Ze l 3).1).getD 0 ⟨#[]⟩))).1))) (H' := [rdB l, bxB 69 (Z3 (⟨(⟨0, 0, 0, dz, 0⟩ : Head), 0, dz⟩ : Signed)), txB ((Ze l 3).1), Zy (bl (((Ze l 3).1).getD 0 ⟨#[]⟩)), bxB 36 (Zan ((Zax (bl (((Ze l 3).1).getD 0 ⟨#[]⟩))).1)), hole, hole]) rfl rfl rfl (by kernel_rfl) (by kernel_rfl) ?_
  refine Zb rfl rfl (Iv ((Zax (bl (((Ze l 3).1).getD 0 ⟨#[]⟩))).2)) rfl (Za (Zc (Zg (Zi (Zd rfl rfl (slv 2 0 ((Ze l 3).1.length) ((Ze l 3).1.length)) rfl ?_)))))
  refine Zbk (b := 2) (o := 0) (j := 2) (m := ((Ze l 3).1.length)) (c := ((Ze l 3).1.length)) (sz := 1) (i := 2) (k := .i64) rfl rfl rfl rfl rfl (by omega) (by omega) (by omega) ?_
  refine Zo (p := pt 2 2) (v := .string (((Ze l 3).1).getD 2 ⟨#[]⟩)) rfl rfl rfl (Zdv rfl rfl rfl (by omega)) ?_
  refine Zs (Zld (G := G) (((Ze l 3).1).getD 2 ⟨#[]⟩)) (vals := [.string (((Ze l 3).1).getD 2 ⟨#[]⟩)]) (res' := .tuple #[dgV ((Zav (((Ze l 3).1).getD 2 ⟨#[]⟩)).1), .bool ((Zav (((Ze l 3).1).getD 2 ⟨#[]⟩)).2)]) rfl rfl rfl rfl rfl (by kernel_rfl) ?_
  refine Zd rfl rfl (.tuple #[dgV ((Zav (((Ze l 3).1).getD 2 ⟨#[]⟩)).1), .bool ((Zav (((Ze l 3).1).getD 2 ⟨#[]⟩)).2)]) rfl (Zt (vs := #[dgV ((Zav (((Ze l 3).1).getD 2 ⟨#[]⟩)).1), .bool ((Zav (((Ze l 3).1).getD 2 ⟨#[]⟩)).2)]) (v := dgV ((Zav (((Ze l 3).1).getD 2 ⟨#[]⟩)).1)) rfl rfl rfl rfl (Zt (vs := #[dgV ((Zav (((Ze l 3).1).getD 2 ⟨#[]⟩)).1), .bool ((Zav (((Ze l 3).1).getD 2 ⟨#[]⟩)).2)]) (v := .bool ((Zav (((Ze l 3).1).getD 2 ⟨#[]⟩)).2)) rfl rfl rfl rfl ?_))
  refine Zae (b := dgB dz) (nid := 5) (H' := [rdB l, bxB 69 (Z3 (⟨(⟨0, 0, 0, dz, 0⟩ : Head), 0, dz⟩ : Signed)), txB ((Ze l 3).1), Zy (bl (((Ze l 3).1).getD 0 ⟨#[]⟩)), bxB 36 (Zan ((Zax (bl (((Ze l 3).1).getD 0 ⟨#[]⟩))).1)), dgB dz, hole]) rfl rfl (by kernel_rfl) (by kernel_rfl) ?_
  refine Zr (p := pt 5 0) (v := dgV ((Zav (((Ze l 3).1).getD 2 ⟨#[]⟩)).1)) (b := 5) (blk := dgB ((Zav (((Ze l 3).1).getD 2 ⟨#[]⟩)).1)) (H' := [rdB l, bxB 69 (Z3 (⟨(⟨0, 0, 0, dz, 0⟩ : Head), 0, dz⟩ : Signed)), txB ((Ze l 3).1), Zy (bl (((Ze l 3).1).getD 0 ⟨#[]⟩)), bxB 36 (Zan ((Zax (bl (((Ze l 3).1).getD 0 ⟨#[]⟩))).1)), dgB ((Zav (((Ze l 3).1).getD 2 ⟨#[]⟩)).1), hole]) rfl rfl rfl (by kernel_rfl) (by kernel_rfl) ?_
  refine Zb rfl rfl (.bool ((Zav (((Ze l 3).1).getD 2 ⟨#[]⟩)).2)) rfl (Za (Zc (Zg ?_)))
  refine Zfv (by kernel_rfl) ?_
  refine Zo (p := pt 4 0) (v := Zbf ((Zax (bl (((Ze l 3).1).getD 0 ⟨#[]⟩))).1)) rfl rfl rfl (by kernel_rfl) ?_
  refine Zd rfl rfl (slv 2 0 ((Ze l 3).1.length) ((Ze l 3).1.length)) rfl ?_
  refine Zbk (b := 2) (o := 0) (j := 1) (m := ((Ze l 3).1.length)) (c := ((Ze l 3).1.length)) (sz := 1) (i := 1) (k := .i64) rfl rfl rfl rfl rfl (by omega) (by omega) (by omega) ?_
  refine Zo (p := pt 2 1) (v := .string (((Ze l 3).1).getD 1 ⟨#[]⟩)) rfl rfl rfl (Zdv rfl rfl rfl (by omega)) ?_
  refine Zs (Zfg (G := G) (((Ze l 3).1).getD 1 ⟨#[]⟩)) (vals := [.string (((Ze l 3).1).getD 1 ⟨#[]⟩)]) (res' := Iv (vR (((Ze l 3).1).getD 1 ⟨#[]⟩))) rfl rfl rfl rfl rfl rfl ?_
  refine Zo (p := pt 5 0) (v := dgV ((Zav (((Ze l 3).1).getD 2 ⟨#[]⟩)).1)) rfl rfl rfl (by kernel_rfl) ?_
  refine Zaw (vs := [(0, Zbf ((Zax (bl (((Ze l 3).1).getD 0 ⟨#[]⟩))).1)), (1, Iv (vR (((Ze l 3).1).getD 1 ⟨#[]⟩))), (2, dgV ((Zav (((Ze l 3).1).getD 2 ⟨#[]⟩)).1))]) (v := Zaa (⟨(Zax (bl (((Ze l 3).1).getD 0 ⟨#[]⟩))).1, (vR (((Ze l 3).1).getD 1 ⟨#[]⟩)), (Zav (((Ze l 3).1).getD 2 ⟨#[]⟩)).1⟩ : Signed)) rfl rfl rfl (by kernel_rfl) ?_
  refine Zae (b := bxB 69 (Z3 (⟨(⟨0, 0, 0, dz, 0⟩ : Head), 0, dz⟩ : Signed))) (nid := 6) (H' := [rdB l, bxB 69 (Z3 (⟨(⟨0, 0, 0, dz, 0⟩ : Head), 0, dz⟩ : Signed)), txB ((Ze l 3).1), Zy (bl (((Ze l 3).1).getD 0 ⟨#[]⟩)), bxB 36 (Zan ((Zax (bl (((Ze l 3).1).getD 0 ⟨#[]⟩))).1)), dgB ((Zav (((Ze l 3).1).getD 2 ⟨#[]⟩)).1), bxB 69 (Z3 (⟨(⟨0, 0, 0, dz, 0⟩ : Head), 0, dz⟩ : Signed))]) rfl rfl (by kernel_rfl) (by kernel_rfl) ?_
  refine Zr (p := pt 6 0) (v := Zaa (⟨(Zax (bl (((Ze l 3).1).getD 0 ⟨#[]⟩))).1, (vR (((Ze l 3).1).getD 1 ⟨#[]⟩)), (Zav (((Ze l 3).1).getD 2 ⟨#[]⟩)).1⟩ : Signed)) (b := 6) (blk := bxB 69 (Z3 (⟨(Zax (bl (((Ze l 3).1).getD 0 ⟨#[]⟩))).1, (vR (((Ze l 3).1).getD 1 ⟨#[]⟩)), (Zav (((Ze l 3).1).getD 2 ⟨#[]⟩)).1⟩ : Signed))) (H' := [rdB l, bxB 69 (Z3 (⟨(⟨0, 0, 0, dz, 0⟩ : Head), 0, dz⟩ : Signed)), txB ((Ze l 3).1), Zy (bl (((Ze l 3).1).getD 0 ⟨#[]⟩)), bxB 36 (Zan ((Zax (bl (((Ze l 3).1).getD 0 ⟨#[]⟩))).1)), dgB ((Zav (((Ze l 3).1).getD 2 ⟨#[]⟩)).1), bxB 69 (Z3 (⟨(Zax (bl (((Ze l 3).1).getD 0 ⟨#[]⟩))).1, (vR (((Ze l 3).1).getD 1 ⟨#[]⟩)), (Zav (((Ze l 3).1).getD 2 ⟨#[]⟩)).1⟩ : Signed))]) rfl rfl rfl (by kernel_rfl) (by kernel_rfl) ?_
  refine Zeo (Zdr [[], [], [1], [1, 2], [1, 2, 3], [], [0, 1, 2, 3, 4, 5], [], [0, 1, 2, 3, 4, 5, 6, 7]] (by kernel_rfl) (by kernel_rfl)) ?_
  refine Zc (Zg (Zg (Zi (Zd rfl rfl (Iv ((Zax (bl (((Ze l 3).1).getD 0 ⟨#[]⟩))).2)) rfl ?_))))
  by_cases h2 : ((Zax (bl (((Ze l 3).1).getD 0 ⟨#[]⟩))).2) ≠ 0
  refine Zn (vx := Iv ((Zax (bl (((Ze l 3).1).getD 0 ⟨#[]⟩))).2)) (vy := Iv 0) rfl rfl (.bool true) rfl rfl (Zeg (by omega)) ?_
  refine Zd rfl rfl (.bool true) rfl (Zf rfl rfl (Zf rfl rfl (Zk rfl rfl (.bool true) rfl (Zd rfl rfl (.bool true) rfl (Zf rfl rfl (Zf rfl rfl (Zf rfl rfl (Zk rfl rfl (.bool true) rfl (Za (Zc (Z0 rfl (Zg (Zi ?_)))))))))))))
  refine Zaw (vs := []) (v := Zaa (⟨(⟨0, 0, 0, dz, 0⟩ : Head), 0, dz⟩ : Signed)) rfl rfl rfl (by kernel_rfl) ?_
  refine Zr (p := pt 1 0) (v := Zaa (⟨(⟨0, 0, 0, dz, 0⟩ : Head), 0, dz⟩ : Signed)) (b := 1) (blk := bxB 69 (Z3 (⟨(⟨0, 0, 0, dz, 0⟩ : Head), 0, dz⟩ : Signed))) (H' := [rdB l, bxB 69 (Z3 (⟨(⟨0, 0, 0, dz, 0⟩ : Head), 0, dz⟩ : Signed)), txB ((Ze l 3).1), Zy (bl (((Ze l 3).1).getD 0 ⟨#[]⟩)), bxB 36 (Zan ((Zax (bl (((Ze l 3).1).getD 0 ⟨#[]⟩))).1)), dgB ((Zav (((Ze l 3).1).getD 2 ⟨#[]⟩)).1), bxB 69 (Z3 (⟨(Zax (bl (((Ze l 3).1).getD 0 ⟨#[]⟩))).1, (vR (((Ze l 3).1).getD 1 ⟨#[]⟩)), (Zav (((Ze l 3).1).getD 2 ⟨#[]⟩)).1⟩ : Signed))]) rfl rfl rfl (by kernel_rfl) (by kernel_rfl) ?_
  refine Zb rfl rfl (Iv 70) rfl (Za (Zc (Zv (Z5 (Zu ?_)))))
  rw [show Zb9 l = (⟨⟨0, 0, 0, dz, 0⟩, 0, dz⟩, 70) from by first | exact Zdj (.inl (by assumption)) | exact Zdj (.inr (.inl (by omega))) | exact Zdj (.inr (.inr (.inl (by assumption)))) | exact Zdj (.inr (.inr (.inr (of_decide_eq_false (by assumption)))))]
  exact Zm (v := .tuple #[Zaa (⟨(⟨0, 0, 0, dz, 0⟩ : Head), 0, dz⟩ : Signed), Iv 70]) (by kernel_rfl) rfl rfl (by simp [Zac, rdB]) ⟨(Zbd (by kernel_rfl) rfl), rfl, trivial⟩
  refine Zn (vx := Iv ((Zax (bl (((Ze l 3).1).getD 0 ⟨#[]⟩))).2)) (vy := Iv 0) rfl rfl (.bool false) rfl rfl (Zds (by omega)) ?_
  refine Zd rfl rfl (.bool false) rfl (Zd rfl rfl (.bool ((Zav (((Ze l 3).1).getD 2 ⟨#[]⟩)).2)) rfl ?_)
  rcases Bool.eq_false_or_eq_true ((Zav (((Ze l 3).1).getD 2 ⟨#[]⟩)).2) with h3 | h3
  refine Zef (vx := .bool ((Zav (((Ze l 3).1).getD 2 ⟨#[]⟩)).2)) rfl rfl (.bool false) rfl (Eq.trans Zb1 (congrArg (fun b => some (Value.bool !b)) h3)) ?_
  refine Zk rfl rfl (.bool false) rfl (Zd rfl rfl (.bool false) rfl ?_)
  refine Zo (p := pt 6 0) (v := Zaa (⟨(Zax (bl (((Ze l 3).1).getD 0 ⟨#[]⟩))).1, (vR (((Ze l 3).1).getD 1 ⟨#[]⟩)), (Zav (((Ze l 3).1).getD 2 ⟨#[]⟩)).1⟩ : Signed)) rfl rfl rfl (by kernel_rfl) ?_
  refine Zs (Zqk (G := G) (⟨(Zax (bl (((Ze l 3).1).getD 0 ⟨#[]⟩))).1, (vR (((Ze l 3).1).getD 1 ⟨#[]⟩)), (Zav (((Ze l 3).1).getD 2 ⟨#[]⟩)).1⟩ : Signed)) (vals := [Zaa (⟨(Zax (bl (((Ze l 3).1).getD 0 ⟨#[]⟩))).1, (vR (((Ze l 3).1).getD 1 ⟨#[]⟩)), (Zav (((Ze l 3).1).getD 2 ⟨#[]⟩)).1⟩ : Signed)]) (res' := .bool (decide (Zfy (⟨(Zax (bl (((Ze l 3).1).getD 0 ⟨#[]⟩))).1, (vR (((Ze l 3).1).getD 1 ⟨#[]⟩)), (Zav (((Ze l 3).1).getD 2 ⟨#[]⟩)).1⟩ : Signed)))) rfl rfl rfl rfl rfl rfl ?_
  rcases Bool.eq_false_or_eq_true (decide (Zfy (⟨(Zax (bl (((Ze l 3).1).getD 0 ⟨#[]⟩))).1, (vR (((Ze l 3).1).getD 1 ⟨#[]⟩)), (Zav (((Ze l 3).1).getD 2 ⟨#[]⟩)).1⟩ : Signed))) with h4 | h4
  refine Zef (vx := .bool (decide (Zfy (⟨(Zax (bl (((Ze l 3).1).getD 0 ⟨#[]⟩))).1, (vR (((Ze l 3).1).getD 1 ⟨#[]⟩)), (Zav (((Ze l 3).1).getD 2 ⟨#[]⟩)).1⟩ : Signed)))) rfl rfl (.bool false) rfl (Eq.trans Zb1 (congrArg (fun b => some (Value.bool !b)) h4)) ?_
  refine Zk rfl rfl (.bool false) rfl (Za (Zc (Zx rfl (Zai (Zc (Zg (Zi ?_)))))))
  refine Zo (p := pt 6 0) (v := Zaa (⟨(Zax (bl (((Ze l 3).1).getD 0 ⟨#[]⟩))).1, (vR (((Ze l 3).1).getD 1 ⟨#[]⟩)), (Zav (((Ze l 3).1).getD 2 ⟨#[]⟩)).1⟩ : Signed)) rfl rfl rfl (by kernel_rfl) ?_
  refine Zr (p := pt 1 0) (v := Zaa (⟨(Zax (bl (((Ze l 3).1).getD 0 ⟨#[]⟩))).1, (vR (((Ze l 3).1).getD 1 ⟨#[]⟩)), (Zav (((Ze l 3).1).getD 2 ⟨#[]⟩)).1⟩ : Signed)) (b := 1) (blk := bxB 69 (Z3 (⟨(Zax (bl (((Ze l 3).1).getD 0 ⟨#[]⟩))).1, (vR (((Ze l 3).1).getD 1 ⟨#[]⟩)), (Zav (((Ze l 3).1).getD 2 ⟨#[]⟩)).1⟩ : Signed))) (H' := [rdB l, bxB 69 (Z3 (⟨(Zax (bl (((Ze l 3).1).getD 0 ⟨#[]⟩))).1, (vR (((Ze l 3).1).getD 1 ⟨#[]⟩)), (Zav (((Ze l 3).1).getD 2 ⟨#[]⟩)).1⟩ : Signed)), txB ((Ze l 3).1), Zy (bl (((Ze l 3).1).getD 0 ⟨#[]⟩)), bxB 36 (Zan ((Zax (bl (((Ze l 3).1).getD 0 ⟨#[]⟩))).1)), dgB ((Zav (((Ze l 3).1).getD 2 ⟨#[]⟩)).1), bxB 69 (Z3 (⟨(Zax (bl (((Ze l 3).1).getD 0 ⟨#[]⟩))).1, (vR (((Ze l 3).1).getD 1 ⟨#[]⟩)), (Zav (((Ze l 3).1).getD 2 ⟨#[]⟩)).1⟩ : Signed))]) rfl rfl rfl (by kernel_rfl) (by kernel_rfl) ?_
  refine Zb rfl rfl (Iv 0) rfl (Za (Zc (Zv (Zu ?_))))
  rw [Zzy (l := l) (by assumption) (by omega) (by assumption) (of_decide_eq_true (by assumption))]
  exact Zm (v := .tuple #[Zaa (⟨(Zax (bl (((Ze l 3).1).getD 0 ⟨#[]⟩))).1, (vR (((Ze l 3).1).getD 1 ⟨#[]⟩)), (Zav (((Ze l 3).1).getD 2 ⟨#[]⟩)).1⟩ : Signed), Iv 0]) (by kernel_rfl) rfl rfl (by simp [Zac, rdB]) ⟨(Zbd (by kernel_rfl) rfl), rfl, trivial⟩
  refine Zef (vx := .bool (decide (Zfy (⟨(Zax (bl (((Ze l 3).1).getD 0 ⟨#[]⟩))).1, (vR (((Ze l 3).1).getD 1 ⟨#[]⟩)), (Zav (((Ze l 3).1).getD 2 ⟨#[]⟩)).1⟩ : Signed)))) rfl rfl (.bool true) rfl (Eq.trans Zb1 (congrArg (fun b => some (Value.bool !b)) h4)) ?_
  refine Zk rfl rfl (.bool true) rfl (Za (Zc (Z0 rfl (Zg (Zi ?_)))))
  refine Zaw (vs := []) (v := Zaa (⟨(⟨0, 0, 0, dz, 0⟩ : Head), 0, dz⟩ : Signed)) rfl rfl rfl (by kernel_rfl) ?_
  refine Zr (p := pt 1 0) (v := Zaa (⟨(⟨0, 0, 0, dz, 0⟩ : Head), 0, dz⟩ : Signed)) (b := 1) (blk := bxB 69 (Z3 (⟨(⟨0, 0, 0, dz, 0⟩ : Head), 0, dz⟩ : Signed))) (H' := [rdB l, bxB 69 (Z3 (⟨(⟨0, 0, 0, dz, 0⟩ : Head), 0, dz⟩ : Signed)), txB ((Ze l 3).1), Zy (bl (((Ze l 3).1).getD 0 ⟨#[]⟩)), bxB 36 (Zan ((Zax (bl (((Ze l 3).1).getD 0 ⟨#[]⟩))).1)), dgB ((Zav (((Ze l 3).1).getD 2 ⟨#[]⟩)).1), bxB 69 (Z3 (⟨(Zax (bl (((Ze l 3).1).getD 0 ⟨#[]⟩))).1, (vR (((Ze l 3).1).getD 1 ⟨#[]⟩)), (Zav (((Ze l 3).1).getD 2 ⟨#[]⟩)).1⟩ : Signed))]) rfl rfl rfl (by kernel_rfl) (by kernel_rfl) ?_
  refine Zb rfl rfl (Iv 70) rfl (Za (Zc (Zv (Z5 (Zu ?_)))))
  rw [show Zb9 l = (⟨⟨0, 0, 0, dz, 0⟩, 0, dz⟩, 70) from by first | exact Zdj (.inl (by assumption)) | exact Zdj (.inr (.inl (by omega))) | exact Zdj (.inr (.inr (.inl (by assumption)))) | exact Zdj (.inr (.inr (.inr (of_decide_eq_false (by assumption)))))]
  exact Zm (v := .tuple #[Zaa (⟨(⟨0, 0, 0, dz, 0⟩ : Head), 0, dz⟩ : Signed), Iv 70]) (by kernel_rfl) rfl rfl (by simp [Zac, rdB]) ⟨(Zbd (by kernel_rfl) rfl), rfl, trivial⟩
  refine Zef (vx := .bool ((Zav (((Ze l 3).1).getD 2 ⟨#[]⟩)).2)) rfl rfl (.bool true) rfl (Eq.trans Zb1 (congrArg (fun b => some (Value.bool !b)) h3)) ?_
  refine Zk rfl rfl (.bool true) rfl (Zd rfl rfl (.bool true) rfl (Zf rfl rfl (Zf rfl rfl (Zf rfl rfl (Zk rfl rfl (.bool true) rfl (Za (Zc (Z0 rfl (Zg (Zi ?_))))))))))
  refine Zaw (vs := []) (v := Zaa (⟨(⟨0, 0, 0, dz, 0⟩ : Head), 0, dz⟩ : Signed)) rfl rfl rfl (by kernel_rfl) ?_
  refine Zr (p := pt 1 0) (v := Zaa (⟨(⟨0, 0, 0, dz, 0⟩ : Head), 0, dz⟩ : Signed)) (b := 1) (blk := bxB 69 (Z3 (⟨(⟨0, 0, 0, dz, 0⟩ : Head), 0, dz⟩ : Signed))) (H' := [rdB l, bxB 69 (Z3 (⟨(⟨0, 0, 0, dz, 0⟩ : Head), 0, dz⟩ : Signed)), txB ((Ze l 3).1), Zy (bl (((Ze l 3).1).getD 0 ⟨#[]⟩)), bxB 36 (Zan ((Zax (bl (((Ze l 3).1).getD 0 ⟨#[]⟩))).1)), dgB ((Zav (((Ze l 3).1).getD 2 ⟨#[]⟩)).1), bxB 69 (Z3 (⟨(Zax (bl (((Ze l 3).1).getD 0 ⟨#[]⟩))).1, (vR (((Ze l 3).1).getD 1 ⟨#[]⟩)), (Zav (((Ze l 3).1).getD 2 ⟨#[]⟩)).1⟩ : Signed))]) rfl rfl rfl (by kernel_rfl) (by kernel_rfl) ?_
  refine Zb rfl rfl (Iv 70) rfl (Za (Zc (Zv (Z5 (Zu ?_)))))
  rw [show Zb9 l = (⟨⟨0, 0, 0, dz, 0⟩, 0, dz⟩, 70) from by first | exact Zdj (.inl (by assumption)) | exact Zdj (.inr (.inl (by omega))) | exact Zdj (.inr (.inr (.inl (by assumption)))) | exact Zdj (.inr (.inr (.inr (of_decide_eq_false (by assumption)))))]
  exact Zm (v := .tuple #[Zaa (⟨(⟨0, 0, 0, dz, 0⟩ : Head), 0, dz⟩ : Signed), Iv 70]) (by kernel_rfl) rfl rfl (by simp [Zac, rdB]) ⟨(Zbd (by kernel_rfl) rfl), rfl, trivial⟩
  refine Zef (vx := .bool ((Ze l 3).2)) rfl rfl (.bool true) rfl (Eq.trans Zb1 (congrArg (fun b => some (Value.bool !b)) h1)) ?_
  refine Za (Zc (Z0 rfl (Zg (Zi ?_))))
  refine Zaw (vs := []) (v := Zaa (⟨(⟨0, 0, 0, dz, 0⟩ : Head), 0, dz⟩ : Signed)) rfl rfl rfl (by kernel_rfl) ?_
  refine Zr (p := pt 1 0) (v := Zaa (⟨(⟨0, 0, 0, dz, 0⟩ : Head), 0, dz⟩ : Signed)) (b := 1) (blk := bxB 69 (Z3 (⟨(⟨0, 0, 0, dz, 0⟩ : Head), 0, dz⟩ : Signed))) (H' := [rdB l, bxB 69 (Z3 (⟨(⟨0, 0, 0, dz, 0⟩ : Head), 0, dz⟩ : Signed)), txB ((Ze l 3).1), hole, hole, hole, hole]) rfl rfl rfl (by kernel_rfl) (by kernel_rfl) ?_
  refine Zb rfl rfl (Iv 70) rfl (Za (Zc (Zv (Z5 (Zu ?_)))))
  rw [show Zb9 l = (⟨⟨0, 0, 0, dz, 0⟩, 0, dz⟩, 70) from by first | exact Zdj (.inl (by assumption)) | exact Zdj (.inr (.inl (by omega))) | exact Zdj (.inr (.inr (.inl (by assumption)))) | exact Zdj (.inr (.inr (.inr (of_decide_eq_false (by assumption)))))]
  exact Zm (v := .tuple #[Zaa (⟨(⟨0, 0, 0, dz, 0⟩ : Head), 0, dz⟩ : Signed), Iv 70]) (by kernel_rfl) rfl rfl (by simp [Zac, rdB]) ⟨(Zbd (by kernel_rfl) rfl), rfl, trivial⟩
end Go.Flat
namespace Go.Flat
open Go.Proofs

theorem Z2l (s : ByteArray) : cpM dz s = cpD s := by
 funext i; unfold cpM cpD; split <;> rfl
theorem Z0v {l : Bs} (h : (Z9 l).2 ≠ 0) : Z9 l = (⟨0, 0, 0, 0, dz⟩, 60) := by
 unfold Z9 at h ⊢
 split at h
 ·exact absurd rfl h
 ·rename_i q; exact if_neg q
theorem Z06 {c : Claim} (hr : Za8 c) : (Z8 c).1 = Zaj (Zfb c) := by rw [show Z8 c = _ from if_pos hr]; rfl
def Zqh (ls : List ByteArray) : Claim := ⟨vR (ls.getD 0 ⟨#[]⟩), vR (ls.getD 1 ⟨#[]⟩), vR (ls.getD 2 ⟨#[]⟩), vR (ls.getD 3 ⟨#[]⟩), (Zav (ls.getD 4 ⟨#[]⟩)).1⟩
theorem Z0o {l : Bs} (h1 : (Ze l 5).2 = true) (h2 : (Zav ((Ze l 5).1.getD 4 ⟨#[]⟩)).2 = true) (h3 : Za8 (Zqh (Ze l 5).1)) : Z9 l = (Zqh (Ze l 5).1, 0) := by
 obtain ⟨q1, q2⟩ := Zfz h1
 generalize (Ze l 5).1 = ls at *
 match ls, q1 with
 | [a, b, c, d, f], _ =>
  obtain ⟨d1, d2⟩ := Zvl h2
  have d1' : f.size = 32 := d1
  have d2' : (Zav f).1 = cpD f := d2
  have r1 : 1 ≤ vR a ∧ vR a ≤ 5 := h3.1
  have r2 : 1 ≤ vR b ∧ vR b ≤ 900000000 := h3.2.1
  have r3 : 1 ≤ vR c ∧ vR c ≤ 3 := h3.2.2.1
  have r4 : 0 ≤ vR d ∧ vR d ≤ 100000 := h3.2.2.2
  have v1 := Ziq (s := a) (by omega)
  have v2 := Ziq (s := b) (by omega)
  have v3 := Ziq (s := c) (by omega)
  have v4 := Ziq (s := d) (by omega)
  have w1 := (Zjw (s := a) (by rw [v1])).2.2
  have w2 := (Zjw (s := b) (by rw [v2])).2.2
  have w3 := (Zjw (s := c) (by rw [v3])).2.2
  have w4 := (Zjw (s := d) (by rw [v4])).2.2
  rw [v1] at w1; rw [v2] at w2; rw [v3] at w3; rw [v4] at w4
  have hx : Zqh [a, b, c, d, f] = ⟨vR a, vR b, vR c, vR d, cpD f⟩ := by rw [← d2']; rfl
  have hcl : Zfb ⟨vR a, vR b, vR c, vR d, cpD f⟩ = [a, b, c, d, f] := by
   show [(Zp (vR a)).1, (Zp (vR b)).1, (Zp (vR c)).1, (Zp (vR d)).1, Zl (dgL (cpD f))] = _
   rw [w1, w2, w3, w4, Z2y d1']
  have hl : l = Zaj [a, b, c, d, f] := Zwz q2 (by simp)
  have hrd : Zh l = (Zd0 0 [a, b, c, d, f], 0) := by
   rw [hl]; exact Zkc _ (by simp) (by rw [← hcl]; exact Zkp _)
  have ht : Zfi (Zd0 0 [a, b, c, d, f]) ⟨0, 0, 0, 0, dz⟩ = ⟨vR a, vR b, vR c, vR d, cpD f⟩ := by
   simp [Zd0, Zfi, Zf5, v1, v2, v3, v4, Z2l]
  rw [hx] at h3 ⊢
  unfold Z9
  rw [hrd, ht]
  exact if_pos ⟨rfl, Zwd h3, by rw [Z06 h3, hcl, ← hl]; exact Zgh _⟩
theorem Zgc {l : Bs} (h : (Ze l 5).2 = false ∨ (Zav ((Ze l 5).1.getD 4 ⟨#[]⟩)).2 = false ∨ ¬ Za8 (Zqh (Ze l 5).1)) : Z9 l = (⟨0, 0, 0, 0, dz⟩, 60) := by
 refine Z0v fun e => ?_
 obtain ⟨g1, g2⟩ := Znb e
 have hr := Z4a g2
 generalize hx : (Z9 l).1 = x at *
 have hb := Z06 hr
 rw [g1] at hb
 have hof : ofF l = (true, Zfb x) := by rw [hb]; exact Zkv _ (by simp [Zfb]) (Zkp x)
 have hp := Zma hof
 rw [show (Zfb x).length = 5 from rfl] at hp
 rw [hp] at h
 have hd : Zav (Zl (dgL x.root)) = (cpD (Zl (dgL x.root)), true) := if_pos (by rw [Zbc, Ze2])
 have hr' := hr
 unfold Za8 at hr'
 have v1 := Zca (n := x.region) (by omega) (by omega)
 have v2 := Zca (n := x.epoch) (by omega) (by omega)
 have v3 := Zca (n := x.node) (by omega) (by omega)
 have v4 := Zca (n := x.size) (by omega) (by omega)
 have e5 : Zqh (Zfb x) = ⟨x.region, x.epoch, x.node, x.size, cpD (Zl (dgL x.root))⟩ := by
  show Claim.mk (vR (Zp x.region).1) (vR (Zp x.epoch).1) (vR (Zp x.node).1) (vR (Zp x.size).1) (Zav (Zl (dgL x.root))).1 = _
  rw [Zmz (by rw [v1]), Zmz (by rw [v2]), Zmz (by rw [v3]), Zmz (by rw [v4]), v1, v2, v3, v4, hd]
 rcases h with h | h | h
 ·exact absurd (show true = false from h) (by decide)
 ·rw [show (Zfb x, true).1.getD 4 ⟨#[]⟩ = Zl (dgL x.root) from rfl, hd] at h; exact absurd (show true = false from h) (by decide)
 ·exact h (by show Za8 (Zqh (Zfb x)); rw [e5]; exact hr)
def Zjf (x : Entry) (f : Field) : Entry :=
  if f.tag = 1 then ⟨vR f.data, x.client, x.seq, x.text, x.head, x.claim⟩ else
  if f.tag = 2 then ⟨x.kind, vR f.data, x.seq, x.text, x.head, x.claim⟩ else
  if f.tag = 3 then ⟨x.kind, x.client, vR f.data, x.text, x.head, x.claim⟩ else
  if f.tag = 4 then ⟨x.kind, x.client, x.seq, f.data, x.head, x.claim⟩ else
  if f.tag = 5 then ⟨x.kind, x.client, x.seq, x.text, (Zb9 (bl f.data)).1, x.claim⟩ else
  if f.tag = 6 then ⟨x.kind, x.client, x.seq, x.text, x.head, (Z9 (bl f.data)).1⟩ else x
def Zb0 : List Field → Entry → Entry
  | [], x => x
  | f :: fs, x => Zb0 fs (Zjf x f)
def zE : Entry := ⟨0, 0, 0, ⟨#[]⟩, ⟨⟨0, 0, 0, dz, 0⟩, 0, dz⟩, ⟨0, 0, 0, 0, dz⟩⟩
theorem Zgt {fs : List Field} {i : Nat} {x R : Entry} (hR : Zb0 (fs.drop i) x = R) (hi : i < fs.length) : Zb0 (fs.drop (i + 1)) (Zjf x (fs.getD i default)) = R := by
 rw [Zmq fs i hi] at hR; exact hR
theorem Zzk {e : Entry} (hr : Zba e) : Zb0 (Zci e) zE = Zdo (Zci e) zE := by
 have hk := Zhz hr
 have vk := Zca (n := e.kind) (by omega) (by omega)
 have wk : vR (Zp e.kind).1 = (Zq (Zp e.kind).1).1 := Zmz (by rw [vk])
 rcases hr with q | q | q
 ·obtain ⟨q1, q2, q3, q4, q5, q6⟩ := q
  have v1 := Zca (n := e.client) (by omega) (by omega)
  have v2 := Zca (n := e.seq) (by omega) (by omega)
  have w1 : vR (Zp e.client).1 = (Zq (Zp e.client).1).1 := Zmz (by rw [v1])
  have w2 : vR (Zp e.seq).1 = (Zq (Zp e.seq).1).1 := Zmz (by rw [v2])
  unfold Zci; rw [if_pos q1]
  simp [Zdo, Zer, Zb0, Zjf, wk, w1, w2]
 ·unfold Zci; rw [if_neg (by omega), if_pos q.1]
  simp [Zdo, Zer, Zb0, Zjf, wk]
 ·unfold Zci; rw [if_neg (by have := q.1; omega), if_neg (by have := q.1; omega)]
  simp [Zdo, Zer, Zb0, Zjf, wk]
theorem Z03 {l : Bs} {x : Entry} (hr : Zba x) (hl : (Zaf x).1 = l) : Zb0 (Zh l).1 zE = Zdo (Zh l).1 zE := by
 have hb : (Zaf x).1 = (Z6 (Zci x) 0 []).1 := by rw [show Zaf x = _ from if_pos hr]
 have hrd : Zh l = (Zci x, 0) := by rw [← hl, hb]; exact Zk2 _ (Zky hr)
 rw [hrd]; exact Zzk hr
theorem Z0i {l : Bs} (h1 : (Zh l).2 = 0) (h2 : Zba (Zb0 (Zh l).1 zE)) (h3 : Zbq (Zl (Zaf (Zb0 (Zh l).1 zE)).1) (Zl l) = true) : Z4 l = (Zb0 (Zh l).1 zE, 0) := by
 have hg := Z03 h2 (Zgp ((Za9 _ _).1 h3))
 unfold Z4
 rw [show Zdo (Zh l).1 ⟨0, 0, 0, ⟨#[]⟩, ⟨⟨0, 0, 0, dz, 0⟩, 0, dz⟩, ⟨0, 0, 0, 0, dz⟩⟩ = Zb0 (Zh l).1 zE from hg.symm]
 exact if_pos ⟨h1, Zpp h2, h3⟩
theorem Zgd {l : Bs} (h : (Zh l).2 ≠ 0 ∨ ¬ Zba (Zb0 (Zh l).1 zE) ∨ Zbq (Zl (Zaf (Zb0 (Zh l).1 zE)).1) (Zl l) = false) : Z4 l = (zE, 60) := by
 by_cases q : (Zh l).2 = 0 ∧ (Zaf (Zdo (Zh l).1 zE)).2 = 0 ∧ Zbq (Zl (Zaf (Zdo (Zh l).1 zE)).1) (Zl l) = true
 ·obtain ⟨q1, q2, q3⟩ := q
  have hr := Zsj q2
  have hg := Z03 hr (Zgp ((Za9 _ _).1 q3))
  rw [hg] at h
  rcases h with h | h | h
  ·exact absurd q1 h
  ·exact absurd hr h
  ·rw [q3] at h; exact absurd h (by decide)
 ·exact if_neg q
end Go.Flat
namespace Go.Flat
open Go.Proofs
variable {G : Glob}
def itB : ByteArray := ⟨#[1, 0, 0, 1, 1, 2, 0, 0, 21, 1, 0, 0, 1, 1, 2, 0, 0, 1, 1, 3, 0, 0, 1, 2, 4, 0, 0, 2, 97, 98]⟩
def ab : ByteArray := ⟨#[97, 98]⟩
def Za0 : Entry := ⟨1, 1, 2, ab, ⟨⟨0, 0, 0, dz, 0⟩, 0, dz⟩, ⟨0, 0, 0, 0, dz⟩⟩
theorem Ztm : Zd9 ⟨1, Za0⟩ := ⟨by show (1 : Int) ≤ 1; omega, by show (1 : Int) ≤ 900000000; omega, of_decide_eq_true (by kernel_rfl)⟩
theorem Z5x (l : Bs) (n c : Nat) (hn : l.length = n) (hc : n ≤ c) (hb : n ≤ 1048576) {e : Entry} {z : Int} (h : Z4 l = (e, z)) : Zao Tryd.prog G 12 [slv 0 0 n c] [rdB l] (.tuple #[Zaz e, Iv z]) [rdB l] := by
 have q := Z3w (G := G) l n c hn hc hb
 rw [h] at q; exact q
theorem Z2q (kk : Nat → BitVec 32) (hG : G 1 = some (Zbx w32 64 kk)) (x : Item) {d : D} {z : Int} (h : Zqy kk x = (d, z)) : Zao Tryd.prog G 15 [Za4 x] [] (.tuple #[dgV d, Iv z]) [] := by
 have q := Z3i (G := G) kk hG x
 rw [h] at q; exact q
theorem Zux  : Zao Tryd.prog G 37 [] [] (Zaz Za0) [] := by
 refine Zbv (fn := Tryd.f37) (nt := 2) rfl rfl rfl rfl ?_
 refine Zat 1 (H' := [hole]) rfl ?_
 refine Zg (Zi ?_)
 refine Zae (b := bxB 109 (Z2 (⟨0, 0, 0, ⟨#[]⟩, (⟨(⟨0, 0, 0, dz, 0⟩ : Head), 0, dz⟩ : Signed), (⟨0, 0, 0, 0, dz⟩ : Claim)⟩ : Entry))) (nid := 0) (H' := [bxB 109 (Z2 (⟨0, 0, 0, ⟨#[]⟩, (⟨(⟨0, 0, 0, dz, 0⟩ : Head), 0, dz⟩ : Signed), (⟨0, 0, 0, 0, dz⟩ : Claim)⟩ : Entry))]) rfl rfl (by kernel_rfl) (by kernel_rfl) ?_
 refine Za (Zc (Zg (Zi ?_)))
 refine Zaw (vs := [(0, Iv 1), (1, Iv 1), (2, Iv 2), (3, .string ab)]) (v := Zaz (⟨1, 1, 2, ab, (⟨(⟨0, 0, 0, dz, 0⟩ : Head), 0, dz⟩ : Signed), (⟨0, 0, 0, 0, dz⟩ : Claim)⟩ : Entry)) rfl rfl rfl (by kernel_rfl) ?_
 refine Zr (p := pt 0 0) (v := Zaz (⟨1, 1, 2, ab, (⟨(⟨0, 0, 0, dz, 0⟩ : Head), 0, dz⟩ : Signed), (⟨0, 0, 0, 0, dz⟩ : Claim)⟩ : Entry)) (b := 0) (blk := bxB 109 (Z2 (⟨1, 1, 2, ab, (⟨(⟨0, 0, 0, dz, 0⟩ : Head), 0, dz⟩ : Signed), (⟨0, 0, 0, 0, dz⟩ : Claim)⟩ : Entry))) (H' := [bxB 109 (Z2 (⟨1, 1, 2, ab, (⟨(⟨0, 0, 0, dz, 0⟩ : Head), 0, dz⟩ : Signed), (⟨0, 0, 0, 0, dz⟩ : Claim)⟩ : Entry))]) rfl rfl rfl (by kernel_rfl) (by kernel_rfl) ?_
 refine Za (Zc (Zv (Zu ?_)))
 exact Zm (v := Zaz (⟨1, 1, 2, ab, (⟨(⟨0, 0, 0, dz, 0⟩ : Head), 0, dz⟩ : Signed), (⟨0, 0, 0, 0, dz⟩ : Claim)⟩ : Entry)) (by kernel_rfl) rfl rfl (by kernel_rfl) (Zd1 (by kernel_rfl) rfl)
theorem Z0f (kk : Nat → BitVec 32) (hG : G 1 = some (Zbx w32 64 kk))  : Zao Tryd.prog G 11 [] [] (.bool true) [] := by
  refine Zbv (fn := Tryd.f11) (nt := 65) rfl rfl rfl rfl ?_
  refine Zat 5 (H' := [hole, hole, hole, hole, hole]) rfl ?_
  refine Zg (Zi (Zb rfl rfl (.bool false) rfl (Za (Zc (Zg (Zi ?_))))))
  refine Zs (Zux (G := G)) (vals := []) (res' := Zaz Za0) rfl rfl rfl rfl rfl (by kernel_rfl) ?_
  refine Zaw (vs := [(0, Iv 1), (1, Zaz Za0)]) (v := Za4 (⟨1, Za0⟩ : Item)) rfl rfl rfl (by kernel_rfl) ?_
  refine Zae (b := bxB 110 (Zab (⟨0, (⟨0, 0, 0, ⟨#[]⟩, (⟨(⟨0, 0, 0, dz, 0⟩ : Head), 0, dz⟩ : Signed), (⟨0, 0, 0, 0, dz⟩ : Claim)⟩ : Entry)⟩ : Item))) (nid := 0) (H' := [bxB 110 (Zab (⟨0, (⟨0, 0, 0, ⟨#[]⟩, (⟨(⟨0, 0, 0, dz, 0⟩ : Head), 0, dz⟩ : Signed), (⟨0, 0, 0, 0, dz⟩ : Claim)⟩ : Entry)⟩ : Item)), hole, hole, hole, hole]) rfl rfl (by kernel_rfl) (by kernel_rfl) ?_
  refine Zr (p := pt 0 0) (v := Za4 (⟨1, Za0⟩ : Item)) (b := 0) (blk := bxB 110 (Zab (⟨1, Za0⟩ : Item))) (H' := [bxB 110 (Zab (⟨1, Za0⟩ : Item)), hole, hole, hole, hole]) rfl rfl rfl (by kernel_rfl) (by kernel_rfl) ?_
  refine Za (Zc (Zg (Zi ?_)))
  refine Zo (p := pt 0 0) (v := Za4 (⟨1, Za0⟩ : Item)) rfl rfl rfl (by kernel_rfl) ?_
  have hpl10 := Zmv (⟨1, Za0⟩ : Item)
  have hpz10 := Zpq (x := (⟨1, Za0⟩ : Item)) Ztm
  have hpb10 : Zbq (Zl ((Z7 (⟨1, Za0⟩ : Item)).1)) itB = true := by kernel_rfl
  refine Zad (e := []) (nid := 1) (Zi8 (G := G) (⟨1, Za0⟩ : Item)) (vals := [Za4 (⟨1, Za0⟩ : Item)]) (v := .tuple #[slv 1 0 ((Z7 (⟨1, Za0⟩ : Item)).1.length) ((Z7 (⟨1, Za0⟩ : Item)).1.length), Iv ((Z7 (⟨1, Za0⟩ : Item)).2)]) (H' := [bxB 110 (Zab (⟨1, Za0⟩ : Item)), Zy ((Z7 (⟨1, Za0⟩ : Item)).1), hole, hole, hole]) rfl rfl rfl rfl rfl rfl rfl ⟨⟨rfl, trivial⟩, trivial, rfl, rfl, rfl⟩ (by kernel_rfl) (by kernel_rfl) ?_
  refine Zd rfl rfl (.tuple #[slv 1 0 ((Z7 (⟨1, Za0⟩ : Item)).1.length) ((Z7 (⟨1, Za0⟩ : Item)).1.length), Iv ((Z7 (⟨1, Za0⟩ : Item)).2)]) rfl (Zt (vs := #[slv 1 0 ((Z7 (⟨1, Za0⟩ : Item)).1.length) ((Z7 (⟨1, Za0⟩ : Item)).1.length), Iv ((Z7 (⟨1, Za0⟩ : Item)).2)]) (v := slv 1 0 ((Z7 (⟨1, Za0⟩ : Item)).1.length) ((Z7 (⟨1, Za0⟩ : Item)).1.length)) rfl rfl rfl rfl (Zt (vs := #[slv 1 0 ((Z7 (⟨1, Za0⟩ : Item)).1.length) ((Z7 (⟨1, Za0⟩ : Item)).1.length), Iv ((Z7 (⟨1, Za0⟩ : Item)).2)]) (v := Iv ((Z7 (⟨1, Za0⟩ : Item)).2)) rfl rfl rfl rfl (Zb rfl rfl (slv 1 0 ((Z7 (⟨1, Za0⟩ : Item)).1.length) ((Z7 (⟨1, Za0⟩ : Item)).1.length)) rfl (Zb rfl rfl (Iv ((Z7 (⟨1, Za0⟩ : Item)).2)) rfl (Za (Zc (Zg (Zi (Zd rfl rfl (slv 1 0 ((Z7 (⟨1, Za0⟩ : Item)).1.length) ((Z7 (⟨1, Za0⟩ : Item)).1.length)) rfl ?_)))))))))
  have hg11 := Z12 (x := (⟨1, Za0⟩ : Item)) Ztm
  have hg011 := hg11.1
  have hgl11 := Zmv (⟨1, Za0⟩ : Item)
  refine Zad (e := [some (1, 0)]) (nid := 0) (Zpf (G := G) ((Z7 (⟨1, Za0⟩ : Item)).1) ((Z7 (⟨1, Za0⟩ : Item)).1.length) (by omega) (by omega)) (vals := [slv 1 0 ((Z7 (⟨1, Za0⟩ : Item)).1.length) ((Z7 (⟨1, Za0⟩ : Item)).1.length)]) (v := .tuple #[Za4 ((Zal ((Z7 (⟨1, Za0⟩ : Item)).1)).1), Iv ((Zal ((Z7 (⟨1, Za0⟩ : Item)).1)).2)]) (H' := [bxB 110 (Zab (⟨1, Za0⟩ : Item)), Zy ((Z7 (⟨1, Za0⟩ : Item)).1), hole, hole, hole]) rfl rfl rfl rfl rfl rfl rfl ⟨⟨⟨rfl, rfl, rfl, by first | omega | exact Nat.le_refl _, by first | omega | exact Nat.le_refl _⟩, trivial⟩, ⟨(Ze1 rfl), trivial⟩, rfl, rfl, rfl⟩ (by kernel_rfl) (by kernel_rfl) ?_
  refine Zd rfl rfl (.tuple #[Za4 ((Zal ((Z7 (⟨1, Za0⟩ : Item)).1)).1), Iv ((Zal ((Z7 (⟨1, Za0⟩ : Item)).1)).2)]) rfl (Zt (vs := #[Za4 ((Zal ((Z7 (⟨1, Za0⟩ : Item)).1)).1), Iv ((Zal ((Z7 (⟨1, Za0⟩ : Item)).1)).2)]) (v := Za4 ((Zal ((Z7 (⟨1, Za0⟩ : Item)).1)).1)) rfl rfl rfl rfl (Zt (vs := #[Za4 ((Zal ((Z7 (⟨1, Za0⟩ : Item)).1)).1), Iv ((Zal ((Z7 (⟨1, Za0⟩ : Item)).1)).2)]) (v := Iv ((Zal ((Z7 (⟨1, Za0⟩ : Item)).1)).2)) rfl rfl rfl rfl ?_))
  refine Zae (b := bxB 110 (Zab (⟨0, (⟨0, 0, 0, ⟨#[]⟩, (⟨(⟨0, 0, 0, dz, 0⟩ : Head), 0, dz⟩ : Signed), (⟨0, 0, 0, 0, dz⟩ : Claim)⟩ : Entry)⟩ : Item))) (nid := 2) (H' := [bxB 110 (Zab (⟨1, Za0⟩ : Item)), Zy ((Z7 (⟨1, Za0⟩ : Item)).1), bxB 110 (Zab (⟨0, (⟨0, 0, 0, ⟨#[]⟩, (⟨(⟨0, 0, 0, dz, 0⟩ : Head), 0, dz⟩ : Signed), (⟨0, 0, 0, 0, dz⟩ : Claim)⟩ : Entry)⟩ : Item)), hole, hole]) rfl rfl (by kernel_rfl) (by kernel_rfl) ?_
  refine Zr (p := pt 2 0) (v := Za4 ((Zal ((Z7 (⟨1, Za0⟩ : Item)).1)).1)) (b := 2) (blk := bxB 110 (Zab ((Zal ((Z7 (⟨1, Za0⟩ : Item)).1)).1))) (H' := [bxB 110 (Zab (⟨1, Za0⟩ : Item)), Zy ((Z7 (⟨1, Za0⟩ : Item)).1), bxB 110 (Zab ((Zal ((Z7 (⟨1, Za0⟩ : Item)).1)).1)), hole, hole]) rfl rfl rfl (by kernel_rfl) (by kernel_rfl) ?_
  refine Zb rfl rfl (Iv ((Zal ((Z7 (⟨1, Za0⟩ : Item)).1)).2)) rfl (Za (Zc (Zg (Zi ?_))))
  refine Zad (e := [none]) (nid := 0) (Z5x (G := G) [] 0 0 rfl (by omega) (by omega) (show Z4 [] = (⟨0, 0, 0, ⟨#[]⟩, ⟨⟨0, 0, 0, dz, 0⟩, 0, dz⟩, ⟨0, 0, 0, 0, dz⟩⟩, 60) from by kernel_rfl)) (vals := [.slice none 0 0]) (v := .tuple #[Zaz (⟨0, 0, 0, ⟨#[]⟩, (⟨(⟨0, 0, 0, dz, 0⟩ : Head), 0, dz⟩ : Signed), (⟨0, 0, 0, 0, dz⟩ : Claim)⟩ : Entry), Iv 60]) (H' := [bxB 110 (Zab (⟨1, Za0⟩ : Item)), Zy ((Z7 (⟨1, Za0⟩ : Item)).1), bxB 110 (Zab ((Zal ((Z7 (⟨1, Za0⟩ : Item)).1)).1)), hole, hole]) rfl rfl rfl rfl rfl rfl rfl ⟨⟨⟨rfl, rfl, rfl, rfl⟩, trivial⟩, ⟨⟨rfl, rfl, by show 0 < _; decide⟩, trivial⟩, rfl, rfl, rfl⟩ (by kernel_rfl) (by kernel_rfl) ?_
  refine Zd rfl rfl (.tuple #[Zaz (⟨0, 0, 0, ⟨#[]⟩, (⟨(⟨0, 0, 0, dz, 0⟩ : Head), 0, dz⟩ : Signed), (⟨0, 0, 0, 0, dz⟩ : Claim)⟩ : Entry), Iv 60]) rfl (Zt (vs := #[Zaz (⟨0, 0, 0, ⟨#[]⟩, (⟨(⟨0, 0, 0, dz, 0⟩ : Head), 0, dz⟩ : Signed), (⟨0, 0, 0, 0, dz⟩ : Claim)⟩ : Entry), Iv 60]) (v := Zaz (⟨0, 0, 0, ⟨#[]⟩, (⟨(⟨0, 0, 0, dz, 0⟩ : Head), 0, dz⟩ : Signed), (⟨0, 0, 0, 0, dz⟩ : Claim)⟩ : Entry)) rfl rfl rfl rfl (Zt (vs := #[Zaz (⟨0, 0, 0, ⟨#[]⟩, (⟨(⟨0, 0, 0, dz, 0⟩ : Head), 0, dz⟩ : Signed), (⟨0, 0, 0, 0, dz⟩ : Claim)⟩ : Entry), Iv 60]) (v := Iv 60) rfl rfl rfl rfl ?_))
  refine Zae (b := bxB 109 (Z2 (⟨0, 0, 0, ⟨#[]⟩, (⟨(⟨0, 0, 0, dz, 0⟩ : Head), 0, dz⟩ : Signed), (⟨0, 0, 0, 0, dz⟩ : Claim)⟩ : Entry))) (nid := 3) (H' := [bxB 110 (Zab (⟨1, Za0⟩ : Item)), Zy ((Z7 (⟨1, Za0⟩ : Item)).1), bxB 110 (Zab ((Zal ((Z7 (⟨1, Za0⟩ : Item)).1)).1)), bxB 109 (Z2 (⟨0, 0, 0, ⟨#[]⟩, (⟨(⟨0, 0, 0, dz, 0⟩ : Head), 0, dz⟩ : Signed), (⟨0, 0, 0, 0, dz⟩ : Claim)⟩ : Entry)), hole]) rfl rfl (by kernel_rfl) (by kernel_rfl) ?_
  refine Zr (p := pt 3 0) (v := Zaz (⟨0, 0, 0, ⟨#[]⟩, (⟨(⟨0, 0, 0, dz, 0⟩ : Head), 0, dz⟩ : Signed), (⟨0, 0, 0, 0, dz⟩ : Claim)⟩ : Entry)) (b := 3) (blk := bxB 109 (Z2 (⟨0, 0, 0, ⟨#[]⟩, (⟨(⟨0, 0, 0, dz, 0⟩ : Head), 0, dz⟩ : Signed), (⟨0, 0, 0, 0, dz⟩ : Claim)⟩ : Entry))) (H' := [bxB 110 (Zab (⟨1, Za0⟩ : Item)), Zy ((Z7 (⟨1, Za0⟩ : Item)).1), bxB 110 (Zab ((Zal ((Z7 (⟨1, Za0⟩ : Item)).1)).1)), bxB 109 (Z2 (⟨0, 0, 0, ⟨#[]⟩, (⟨(⟨0, 0, 0, dz, 0⟩ : Head), 0, dz⟩ : Signed), (⟨0, 0, 0, 0, dz⟩ : Claim)⟩ : Entry)), hole]) rfl rfl rfl (by kernel_rfl) (by kernel_rfl) ?_
  refine Zb rfl rfl (Iv 60) rfl (Za (Zc (Zg (Zi ?_))))
  refine Zaw (vs := []) (v := Za4 (⟨0, (⟨0, 0, 0, ⟨#[]⟩, (⟨(⟨0, 0, 0, dz, 0⟩ : Head), 0, dz⟩ : Signed), (⟨0, 0, 0, 0, dz⟩ : Claim)⟩ : Entry)⟩ : Item)) rfl rfl rfl (by kernel_rfl) ?_
  refine Zs (Z2q (G := G) kk hG (⟨0, (⟨0, 0, 0, ⟨#[]⟩, (⟨(⟨0, 0, 0, dz, 0⟩ : Head), 0, dz⟩ : Signed), (⟨0, 0, 0, 0, dz⟩ : Claim)⟩ : Entry)⟩ : Item) (show Zqy kk (⟨0, (⟨0, 0, 0, ⟨#[]⟩, (⟨(⟨0, 0, 0, dz, 0⟩ : Head), 0, dz⟩ : Signed), (⟨0, 0, 0, 0, dz⟩ : Claim)⟩ : Entry)⟩ : Item) = (dz, 60) from by kernel_rfl)) (vals := [Za4 (⟨0, (⟨0, 0, 0, ⟨#[]⟩, (⟨(⟨0, 0, 0, dz, 0⟩ : Head), 0, dz⟩ : Signed), (⟨0, 0, 0, 0, dz⟩ : Claim)⟩ : Entry)⟩ : Item)]) (res' := .tuple #[dgV dz, Iv 60]) rfl rfl rfl rfl rfl (by kernel_rfl) ?_
  refine Zd rfl rfl (.tuple #[dgV dz, Iv 60]) rfl (Zt (vs := #[dgV dz, Iv 60]) (v := dgV dz) rfl rfl rfl rfl (Zt (vs := #[dgV dz, Iv 60]) (v := Iv 60) rfl rfl rfl rfl ?_))
  refine Zae (b := dgB dz) (nid := 4) (H' := [bxB 110 (Zab (⟨1, Za0⟩ : Item)), Zy ((Z7 (⟨1, Za0⟩ : Item)).1), bxB 110 (Zab ((Zal ((Z7 (⟨1, Za0⟩ : Item)).1)).1)), bxB 109 (Z2 (⟨0, 0, 0, ⟨#[]⟩, (⟨(⟨0, 0, 0, dz, 0⟩ : Head), 0, dz⟩ : Signed), (⟨0, 0, 0, 0, dz⟩ : Claim)⟩ : Entry)), dgB dz]) rfl rfl (by kernel_rfl) (by kernel_rfl) ?_
  refine Zr (p := pt 4 0) (v := dgV dz) (b := 4) (blk := dgB dz) (H' := [bxB 110 (Zab (⟨1, Za0⟩ : Item)), Zy ((Z7 (⟨1, Za0⟩ : Item)).1), bxB 110 (Zab ((Zal ((Z7 (⟨1, Za0⟩ : Item)).1)).1)), bxB 109 (Z2 (⟨0, 0, 0, ⟨#[]⟩, (⟨(⟨0, 0, 0, dz, 0⟩ : Head), 0, dz⟩ : Signed), (⟨0, 0, 0, 0, dz⟩ : Claim)⟩ : Entry)), dgB dz]) rfl rfl rfl (by kernel_rfl) (by kernel_rfl) ?_
  refine Zb rfl rfl (Iv 60) rfl (Za (Zc (Zg (Zi (Zd rfl rfl (Iv ((Z7 (⟨1, Za0⟩ : Item)).2)) rfl ?_)))))
  refine Zn (vx := Iv ((Z7 (⟨1, Za0⟩ : Item)).2)) (vy := Iv 0) rfl rfl (.bool true) rfl rfl (Zbs (by omega)) ?_
  refine Zd rfl rfl (.bool true) rfl (Zd rfl rfl (slv 1 0 ((Z7 (⟨1, Za0⟩ : Item)).1.length) ((Z7 (⟨1, Za0⟩ : Item)).1.length)) rfl ?_)
  refine Zc6 (p := slv 1 0 ((Z7 (⟨1, Za0⟩ : Item)).1.length) ((Z7 (⟨1, Za0⟩ : Item)).1.length)) (v := .string (Zl ((Z7 (⟨1, Za0⟩ : Item)).1))) rfl rfl rfl (Zbi rfl rfl rfl rfl rfl (by omega)) ?_
  refine Zn (vx := .string (Zl ((Z7 (⟨1, Za0⟩ : Item)).1))) (vy := .string itB) rfl rfl (.bool true) rfl rfl (Eq.trans (Zda _ _) (by rw [hpb10] <;> rfl)) ?_
  refine Zk rfl rfl (.bool true) rfl (Zd rfl rfl (.bool true) rfl (Zd rfl rfl (Iv ((Zal ((Z7 (⟨1, Za0⟩ : Item)).1)).2)) rfl ?_))
  refine Zn (vx := Iv ((Zal ((Z7 (⟨1, Za0⟩ : Item)).1)).2)) (vy := Iv 0) rfl rfl (.bool true) rfl rfl (Zbs (by omega)) ?_
  refine Zk rfl rfl (.bool true) rfl (Zd rfl rfl (.bool true) rfl ?_)
  refine Zo (p := pt 2 0) (v := Za4 ((Zal ((Z7 (⟨1, Za0⟩ : Item)).1)).1)) rfl rfl rfl (by kernel_rfl) ?_
  refine Zo (p := pt 0 0) (v := Za4 (⟨1, Za0⟩ : Item)) rfl rfl rfl (by kernel_rfl) ?_
  refine Zn (vx := Za4 ((Zal ((Z7 (⟨1, Za0⟩ : Item)).1)).1)) (vy := Za4 (⟨1, Za0⟩ : Item)) rfl rfl (.bool true) rfl rfl (Eq.trans (Z0s ((Zal ((Z7 (⟨1, Za0⟩ : Item)).1)).1) (⟨1, Za0⟩ : Item)) (by rw [hg11.2] <;> rfl)) ?_
  refine Zk rfl rfl (.bool true) rfl (Zd rfl rfl (.bool true) rfl (Zd rfl rfl (Iv 60) rfl ?_))
  refine Zn (vx := Iv 60) (vy := Iv 60) rfl rfl (.bool true) rfl rfl (Zbs (by omega)) ?_
  refine Zk rfl rfl (.bool true) rfl (Zd rfl rfl (.bool true) rfl (Zd rfl rfl (Iv 60) rfl ?_))
  refine Zn (vx := Iv 60) (vy := Iv 60) rfl rfl (.bool true) rfl rfl (Zbs (by omega)) ?_
  refine Zk rfl rfl (.bool true) rfl (Zd rfl rfl (.bool true) rfl ?_)
  refine Zs (Zux (G := G)) (vals := []) (res' := Zaz Za0) rfl rfl rfl rfl rfl (by kernel_rfl) ?_
  refine Zs ((Zjs (G := G) Za0).res (congrArg (Value.int .i64) (show Zfl Za0 = 0 from by kernel_rfl))) (vals := [Zaz Za0]) (res' := Iv 0) rfl rfl rfl rfl rfl rfl ?_
  refine Zn (vx := Iv 0) (vy := Iv 0) rfl rfl (.bool true) rfl rfl (Zbs (by omega)) ?_
  refine Zk rfl rfl (.bool true) rfl (Zd rfl rfl (.bool true) rfl ?_)
  refine Zaw (vs := []) (v := Zaz (⟨0, 0, 0, ⟨#[]⟩, (⟨(⟨0, 0, 0, dz, 0⟩ : Head), 0, dz⟩ : Signed), (⟨0, 0, 0, 0, dz⟩ : Claim)⟩ : Entry)) rfl rfl rfl (by kernel_rfl) ?_
  refine Zs ((Zjs (G := G) (⟨0, 0, 0, ⟨#[]⟩, (⟨(⟨0, 0, 0, dz, 0⟩ : Head), 0, dz⟩ : Signed), (⟨0, 0, 0, 0, dz⟩ : Claim)⟩ : Entry)).res (congrArg (Value.int .i64) (show Zfl (⟨0, 0, 0, ⟨#[]⟩, (⟨(⟨0, 0, 0, dz, 0⟩ : Head), 0, dz⟩ : Signed), (⟨0, 0, 0, 0, dz⟩ : Claim)⟩ : Entry) = 60 from by kernel_rfl))) (vals := [Zaz (⟨0, 0, 0, ⟨#[]⟩, (⟨(⟨0, 0, 0, dz, 0⟩ : Head), 0, dz⟩ : Signed), (⟨0, 0, 0, 0, dz⟩ : Claim)⟩ : Entry)]) (res' := Iv 60) rfl rfl rfl rfl rfl rfl ?_
  refine Zn (vx := Iv 60) (vy := Iv 60) rfl rfl (.bool true) rfl rfl (Zbs (by omega)) ?_
  refine Zk rfl rfl (.bool true) rfl (Zb rfl rfl (.bool true) rfl (Za (Zc (Zv (Zu ?_)))))
  exact Znj (v := .bool true) rfl rfl rfl
end Go.Flat
