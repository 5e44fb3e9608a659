/- Walks. -/
import Derived.Test.YtoheeojjdpdljaaDoorL1
import Derived.Test.YtoheeojjdpdljaaDoorL2
set_option linter.unusedVariables false
set_option linter.unusedSimpArgs false
set_option maxRecDepth 20000
namespace Go.Flat
open Go.Proofs
variable {G : Glob}
theorem Zmx (l : Bs) (c : Nat) (hc : l.length ≤ c) (hb : l.length ≤ 1048576) (hcc : c ≤ 9223372036854775807) : Zao Tryd.prog G 21 [slv 0 0 l.length c] [rdB l] (.tuple #[Zz (Z9 l).1, Iv (Z9 l).2]) [rdB l] := by
  refine Zbv (fn := Tryd.f21) (nt := 50) rfl rfl rfl rfl ?_
  refine Zat 4 (H' := [rdB l, hole, hole, hole, hole]) rfl ?_
  refine Zg (Zi ?_)
  refine Zae (b := bxB 36 (Zw (⟨0, 0, 0, 0, dz⟩ : Claim))) (nid := 1) (H' := [rdB l, bxB 36 (Zw (⟨0, 0, 0, 0, dz⟩ : Claim)), hole, hole, hole]) rfl rfl (by kernel_rfl) (by kernel_rfl) ?_
  refine Zb rfl rfl (Iv 0) rfl (Za (Zc (Zg (Zi (Zd rfl rfl (slv 0 0 l.length c) rfl ?_)))))
  refine Zad (e := [some (0, 0)]) (nid := 2) (Zkm (G := G) l c 5 hc (by omega) hcc (by omega)) (vals := [slv 0 0 l.length c, Iv 5]) (v := .tuple #[slv 2 0 ((Ze l 5).1.length) ((Ze l 5).1.length), .bool ((Ze l 5).2)]) (H' := [rdB l, bxB 36 (Zw (⟨0, 0, 0, 0, dz⟩ : Claim)), txB ((Ze l 5).1), hole, hole]) rfl rfl rfl rfl rfl rfl rfl ⟨⟨⟨rfl, rfl, rfl, by omega, by omega⟩, rfl, trivial⟩, ⟨(Zdk rfl), trivial⟩, rfl, rfl, rfl⟩ (by kernel_rfl) (by kernel_rfl) ?_
  refine Zd rfl rfl (.tuple #[slv 2 0 ((Ze l 5).1.length) ((Ze l 5).1.length), .bool ((Ze l 5).2)]) rfl (Zt (vs := #[slv 2 0 ((Ze l 5).1.length) ((Ze l 5).1.length), .bool ((Ze l 5).2)]) (v := slv 2 0 ((Ze l 5).1.length) ((Ze l 5).1.length)) rfl rfl rfl rfl (Zt (vs := #[slv 2 0 ((Ze l 5).1.length) ((Ze l 5).1.length), .bool ((Ze l 5).2)]) (v := .bool ((Ze l 5).2)) rfl rfl rfl rfl (Zb rfl rfl (slv 2 0 ((Ze l 5).1.length) ((Ze l 5).1.length)) rfl (Zb rfl rfl (.bool ((Ze l 5).2)) rfl (Za (Zc (Zg (Zg (Zi (Zd rfl rfl (.bool ((Ze l 5).2)) rfl ?_))))))))))
  rcases Bool.eq_false_or_eq_true ((Ze l 5).2) with h1 | h1
  refine Zef (vx := .bool ((Ze l 5).2)) rfl rfl (.bool false) rfl (Eq.trans Zb1 (congrArg (fun b => some (Value.bool !b)) h1)) ?_
  refine Za (Zc (Zx rfl (Zai (Zc (Zg ?_)))))
  have hp5 := (Zfz (l := l) (n := 5) (by assumption)).1
  have hs40 := fun i => Zjg (n := 5) hb i
  refine Zi (Zd rfl rfl (slv 2 0 ((Ze l 5).1.length) ((Ze l 5).1.length)) rfl ?_)
  refine Zbk (b := 2) (o := 0) (j := 4) (m := ((Ze l 5).1.length)) (c := ((Ze l 5).1.length)) (sz := 1) (i := 4) (k := .i64) rfl rfl rfl rfl rfl (by omega) (by omega) (by omega) ?_
  refine Zo (p := pt 2 4) (v := .string (((Ze l 5).1).getD 4 ⟨#[]⟩)) rfl rfl rfl (Zdv rfl rfl rfl (by omega)) ?_
  refine Zs (Zld (G := G) (((Ze l 5).1).getD 4 ⟨#[]⟩)) (vals := [.string (((Ze l 5).1).getD 4 ⟨#[]⟩)]) (res' := .tuple #[dgV ((Zav (((Ze l 5).1).getD 4 ⟨#[]⟩)).1), .bool ((Zav (((Ze l 5).1).getD 4 ⟨#[]⟩)).2)]) rfl rfl rfl rfl rfl (by kernel_rfl) ?_
  refine Zd rfl rfl (.tuple #[dgV ((Zav (((Ze l 5).1).getD 4 ⟨#[]⟩)).1), .bool ((Zav (((Ze l 5).1).getD 4 ⟨#[]⟩)).2)]) rfl (Zt (vs := #[dgV ((Zav (((Ze l 5).1).getD 4 ⟨#[]⟩)).1), .bool ((Zav (((Ze l 5).1).getD 4 ⟨#[]⟩)).2)]) (v := dgV ((Zav (((Ze l 5).1).getD 4 ⟨#[]⟩)).1)) rfl rfl rfl rfl (Zt (vs := #[dgV ((Zav (((Ze l 5).1).getD 4 ⟨#[]⟩)).1), .bool ((Zav (((Ze l 5).1).getD 4 ⟨#[]⟩)).2)]) (v := .bool ((Zav (((Ze l 5).1).getD 4 ⟨#[]⟩)).2)) rfl rfl rfl rfl ?_))
  refine Zae (b := dgB dz) (nid := 3) (H' := [rdB l, bxB 36 (Zw (⟨0, 0, 0, 0, dz⟩ : Claim)), txB ((Ze l 5).1), dgB dz, hole]) rfl rfl (by kernel_rfl) (by kernel_rfl) ?_
  refine Zr (p := pt 3 0) (v := dgV ((Zav (((Ze l 5).1).getD 4 ⟨#[]⟩)).1)) (b := 3) (blk := dgB ((Zav (((Ze l 5).1).getD 4 ⟨#[]⟩)).1)) (H' := [rdB l, bxB 36 (Zw (⟨0, 0, 0, 0, dz⟩ : Claim)), txB ((Ze l 5).1), dgB ((Zav (((Ze l 5).1).getD 4 ⟨#[]⟩)).1), hole]) rfl rfl rfl (by kernel_rfl) (by kernel_rfl) ?_
  refine Zb rfl rfl (.bool ((Zav (((Ze l 5).1).getD 4 ⟨#[]⟩)).2)) rfl (Za (Zc (Zg ?_)))
  refine Zfv (by kernel_rfl) ?_
  refine Zd rfl rfl (slv 2 0 ((Ze l 5).1.length) ((Ze l 5).1.length)) rfl ?_
  refine Zbk (b := 2) (o := 0) (j := 0) (m := ((Ze l 5).1.length)) (c := ((Ze l 5).1.length)) (sz := 1) (i := 0) (k := .i64) rfl rfl rfl rfl rfl (by omega) (by omega) (by omega) ?_
  refine Zo (p := pt 2 0) (v := .string (((Ze l 5).1).getD 0 ⟨#[]⟩)) rfl rfl rfl (Zdv rfl rfl rfl (by omega)) ?_
  refine Zs (Zfg (G := G) (((Ze l 5).1).getD 0 ⟨#[]⟩)) (vals := [.string (((Ze l 5).1).getD 0 ⟨#[]⟩)]) (res' := Iv (vR (((Ze l 5).1).getD 0 ⟨#[]⟩))) rfl rfl rfl rfl rfl rfl ?_
  refine Zd rfl rfl (slv 2 0 ((Ze l 5).1.length) ((Ze l 5).1.length)) rfl ?_
  refine Zbk (b := 2) (o := 0) (j := 1) (m := ((Ze l 5).1.length)) (c := ((Ze l 5).1.length)) (sz := 1) (i := 1) (k := .i64) rfl rfl rfl rfl rfl (by omega) (by omega) (by omega) ?_
  refine Zo (p := pt 2 1) (v := .string (((Ze l 5).1).getD 1 ⟨#[]⟩)) rfl rfl rfl (Zdv rfl rfl rfl (by omega)) ?_
  refine Zs (Zfg (G := G) (((Ze l 5).1).getD 1 ⟨#[]⟩)) (vals := [.string (((Ze l 5).1).getD 1 ⟨#[]⟩)]) (res' := Iv (vR (((Ze l 5).1).getD 1 ⟨#[]⟩))) rfl rfl rfl rfl rfl rfl ?_
  refine Zd rfl rfl (slv 2 0 ((Ze l 5).1.length) ((Ze l 5).1.length)) rfl ?_
  refine Zbk (b := 2) (o := 0) (j := 2) (m := ((Ze l 5).1.length)) (c := ((Ze l 5).1.length)) (sz := 1) (i := 2) (k := .i64) rfl rfl rfl rfl rfl (by omega) (by omega) (by omega) ?_
  refine Zo (p := pt 2 2) (v := .string (((Ze l 5).1).getD 2 ⟨#[]⟩)) rfl rfl rfl (Zdv rfl rfl rfl (by omega)) ?_
  refine Zs (Zfg (G := G) (((Ze l 5).1).getD 2 ⟨#[]⟩)) (vals := [.string (((Ze l 5).1).getD 2 ⟨#[]⟩)]) (res' := Iv (vR (((Ze l 5).1).getD 2 ⟨#[]⟩))) rfl rfl rfl rfl rfl rfl ?_
  refine Zd rfl rfl (slv 2 0 ((Ze l 5).1.length) ((Ze l 5).1.length)) rfl ?_
  refine Zbk (b := 2) (o := 0) (j := 3) (m := ((Ze l 5).1.length)) (c := ((Ze l 5).1.length)) (sz := 1) (i := 3) (k := .i64) rfl rfl rfl rfl rfl (by omega) (by omega) (by omega) ?_
  refine Zo (p := pt 2 3) (v := .string (((Ze l 5).1).getD 3 ⟨#[]⟩)) rfl rfl rfl (Zdv rfl rfl rfl (by omega)) ?_
  refine Zs (Zfg (G := G) (((Ze l 5).1).getD 3 ⟨#[]⟩)) (vals := [.string (((Ze l 5).1).getD 3 ⟨#[]⟩)]) (res' := Iv (vR (((Ze l 5).1).getD 3 ⟨#[]⟩))) rfl rfl rfl rfl rfl rfl ?_
  refine Zo (p := pt 3 0) (v := dgV ((Zav (((Ze l 5).1).getD 4 ⟨#[]⟩)).1)) rfl rfl rfl (by kernel_rfl) ?_
  refine Zaw (vs := [(0, Iv (vR (((Ze l 5).1).getD 0 ⟨#[]⟩))), (1, Iv (vR (((Ze l 5).1).getD 1 ⟨#[]⟩))), (2, Iv (vR (((Ze l 5).1).getD 2 ⟨#[]⟩))), (3, Iv (vR (((Ze l 5).1).getD 3 ⟨#[]⟩))), (4, dgV ((Zav (((Ze l 5).1).getD 4 ⟨#[]⟩)).1))]) (v := Zz (⟨(vR (((Ze l 5).1).getD 0 ⟨#[]⟩)), (vR (((Ze l 5).1).getD 1 ⟨#[]⟩)), (vR (((Ze l 5).1).getD 2 ⟨#[]⟩)), (vR (((Ze l 5).1).getD 3 ⟨#[]⟩)), (Zav (((Ze l 5).1).getD 4 ⟨#[]⟩)).1⟩ : Claim)) rfl rfl rfl (by kernel_rfl) ?_
  refine Zae (b := bxB 36 (Zw (⟨0, 0, 0, 0, dz⟩ : Claim))) (nid := 4) (H' := [rdB l, bxB 36 (Zw (⟨0, 0, 0, 0, dz⟩ : Claim)), txB ((Ze l 5).1), dgB ((Zav (((Ze l 5).1).getD 4 ⟨#[]⟩)).1), bxB 36 (Zw (⟨0, 0, 0, 0, dz⟩ : Claim))]) rfl rfl (by kernel_rfl) (by kernel_rfl) ?_
  refine Zr (p := pt 4 0) (v := Zz (⟨(vR (((Ze l 5).1).getD 0 ⟨#[]⟩)), (vR (((Ze l 5).1).getD 1 ⟨#[]⟩)), (vR (((Ze l 5).1).getD 2 ⟨#[]⟩)), (vR (((Ze l 5).1).getD 3 ⟨#[]⟩)), (Zav (((Ze l 5).1).getD 4 ⟨#[]⟩)).1⟩ : Claim)) (b := 4) (blk := bxB 36 (Zw (⟨(vR (((Ze l 5).1).getD 0 ⟨#[]⟩)), (vR (((Ze l 5).1).getD 1 ⟨#[]⟩)), (vR (((Ze l 5).1).getD 2 ⟨#[]⟩)), (vR (((Ze l 5).1).getD 3 ⟨#[]⟩)), (Zav (((Ze l 5).1).getD 4 ⟨#[]⟩)).1⟩ : Claim))) (H' := [rdB l, bxB 36 (Zw (⟨0, 0, 0, 0, dz⟩ : Claim)), txB ((Ze l 5).1), dgB ((Zav (((Ze l 5).1).getD 4 ⟨#[]⟩)).1), bxB 36 (Zw (⟨(vR (((Ze l 5).1).getD 0 ⟨#[]⟩)), (vR (((Ze l 5).1).getD 1 ⟨#[]⟩)), (vR (((Ze l 5).1).getD 2 ⟨#[]⟩)), (vR (((Ze l 5).1).getD 3 ⟨#[]⟩)), (Zav (((Ze l 5).1).getD 4 ⟨#[]⟩)).1⟩ : Claim))]) rfl rfl rfl (by kernel_rfl) (by kernel_rfl) ?_
  refine Zeo (Zdr [[], [0], [0, 1], [0, 1, 2], [], [4], [4, 5], [0, 1, 2, 3, 4, 5, 6], [], [8], [8, 9], [0, 1, 2, 3, 4, 5, 6, 7, 8, 9, 10], [], [12], [12, 13], [0, 1, 2, 3, 4, 5, 6, 7, 8, 9, 10, 11, 12, 13, 14], [], [0, 1, 2, 3, 4, 5, 6, 7, 8, 9, 10, 11, 12, 13, 14, 15, 16], [], [0, 1, 2, 3, 4, 5, 6, 7, 8, 9, 10, 11, 12, 13, 14, 15, 16, 17, 18]] (by kernel_rfl) (by kernel_rfl)) ?_
  refine Zc (Zg (Zg (Zi (Zd rfl rfl (.bool ((Zav (((Ze l 5).1).getD 4 ⟨#[]⟩)).2)) rfl ?_))))
  rcases Bool.eq_false_or_eq_true ((Zav (((Ze l 5).1).getD 4 ⟨#[]⟩)).2) with h2 | h2
  refine Zef (vx := .bool ((Zav (((Ze l 5).1).getD 4 ⟨#[]⟩)).2)) rfl rfl (.bool false) rfl (Eq.trans Zb1 (congrArg (fun b => some (Value.bool !b)) h2)) ?_
  refine Zd rfl rfl (.bool false) rfl ?_
  refine Zo (p := pt 4 0) (v := Zz (⟨(vR (((Ze l 5).1).getD 0 ⟨#[]⟩)), (vR (((Ze l 5).1).getD 1 ⟨#[]⟩)), (vR (((Ze l 5).1).getD 2 ⟨#[]⟩)), (vR (((Ze l 5).1).getD 3 ⟨#[]⟩)), (Zav (((Ze l 5).1).getD 4 ⟨#[]⟩)).1⟩ : Claim)) rfl rfl rfl (by kernel_rfl) ?_
  refine Zs (Zl4 (G := G) (⟨(vR (((Ze l 5).1).getD 0 ⟨#[]⟩)), (vR (((Ze l 5).1).getD 1 ⟨#[]⟩)), (vR (((Ze l 5).1).getD 2 ⟨#[]⟩)), (vR (((Ze l 5).1).getD 3 ⟨#[]⟩)), (Zav (((Ze l 5).1).getD 4 ⟨#[]⟩)).1⟩ : Claim)) (vals := [Zz (⟨(vR (((Ze l 5).1).getD 0 ⟨#[]⟩)), (vR (((Ze l 5).1).getD 1 ⟨#[]⟩)), (vR (((Ze l 5).1).getD 2 ⟨#[]⟩)), (vR (((Ze l 5).1).getD 3 ⟨#[]⟩)), (Zav (((Ze l 5).1).getD 4 ⟨#[]⟩)).1⟩ : Claim)]) (res' := .bool (decide (Za8 (⟨(vR (((Ze l 5).1).getD 0 ⟨#[]⟩)), (vR (((Ze l 5).1).getD 1 ⟨#[]⟩)), (vR (((Ze l 5).1).getD 2 ⟨#[]⟩)), (vR (((Ze l 5).1).getD 3 ⟨#[]⟩)), (Zav (((Ze l 5).1).getD 4 ⟨#[]⟩)).1⟩ : Claim)))) rfl rfl rfl rfl rfl rfl ?_
  rcases Bool.eq_false_or_eq_true (decide (Za8 (⟨(vR (((Ze l 5).1).getD 0 ⟨#[]⟩)), (vR (((Ze l 5).1).getD 1 ⟨#[]⟩)), (vR (((Ze l 5).1).getD 2 ⟨#[]⟩)), (vR (((Ze l 5).1).getD 3 ⟨#[]⟩)), (Zav (((Ze l 5).1).getD 4 ⟨#[]⟩)).1⟩ : Claim))) with h3 | h3
  refine Zef (vx := .bool (decide (Za8 (⟨(vR (((Ze l 5).1).getD 0 ⟨#[]⟩)), (vR (((Ze l 5).1).getD 1 ⟨#[]⟩)), (vR (((Ze l 5).1).getD 2 ⟨#[]⟩)), (vR (((Ze l 5).1).getD 3 ⟨#[]⟩)), (Zav (((Ze l 5).1).getD 4 ⟨#[]⟩)).1⟩ : Claim)))) rfl rfl (.bool false) rfl (Eq.trans Zb1 (congrArg (fun b => some (Value.bool !b)) h3)) ?_
  refine Zk rfl rfl (.bool false) rfl (Za (Zc (Zx rfl (Zai (Zc (Zg (Zi ?_)))))))
  refine Zo (p := pt 4 0) (v := Zz (⟨(vR (((Ze l 5).1).getD 0 ⟨#[]⟩)), (vR (((Ze l 5).1).getD 1 ⟨#[]⟩)), (vR (((Ze l 5).1).getD 2 ⟨#[]⟩)), (vR (((Ze l 5).1).getD 3 ⟨#[]⟩)), (Zav (((Ze l 5).1).getD 4 ⟨#[]⟩)).1⟩ : Claim)) rfl rfl rfl (by kernel_rfl) ?_
  refine Zr (p := pt 1 0) (v := Zz (⟨(vR (((Ze l 5).1).getD 0 ⟨#[]⟩)), (vR (((Ze l 5).1).getD 1 ⟨#[]⟩)), (vR (((Ze l 5).1).getD 2 ⟨#[]⟩)), (vR (((Ze l 5).1).getD 3 ⟨#[]⟩)), (Zav (((Ze l 5).1).getD 4 ⟨#[]⟩)).1⟩ : Claim)) (b := 1) (blk := bxB 36 (Zw (⟨(vR (((Ze l 5).1).getD 0 ⟨#[]⟩)), (vR (((Ze l 5).1).getD 1 ⟨#[]⟩)), (vR (((Ze l 5).1).getD 2 ⟨#[]⟩)), (vR (((Ze l 5).1).getD 3 ⟨#[]⟩)), (Zav (((Ze l 5).1).getD 4 ⟨#[]⟩)).1⟩ : Claim))) (H' := [rdB l, bxB 36 (Zw (⟨(vR (((Ze l 5).1).getD 0 ⟨#[]⟩)), (vR (((Ze l 5).1).getD 1 ⟨#[]⟩)), (vR (((Ze l 5).1).getD 2 ⟨#[]⟩)), (vR (((Ze l 5).1).getD 3 ⟨#[]⟩)), (Zav (((Ze l 5).1).getD 4 ⟨#[]⟩)).1⟩ : Claim)), txB ((Ze l 5).1), dgB ((Zav (((Ze l 5).1).getD 4 ⟨#[]⟩)).1), bxB 36 (Zw (⟨(vR (((Ze l 5).1).getD 0 ⟨#[]⟩)), (vR (((Ze l 5).1).getD 1 ⟨#[]⟩)), (vR (((Ze l 5).1).getD 2 ⟨#[]⟩)), (vR (((Ze l 5).1).getD 3 ⟨#[]⟩)), (Zav (((Ze l 5).1).getD 4 ⟨#[]⟩)).1⟩ : Claim))]) rfl rfl rfl (by kernel_rfl) (by kernel_rfl) ?_
  refine Zb rfl rfl (Iv 0) rfl (Za (Zc (Zv (Zu ?_))))
  rw [Z0o (l := l) (by assumption) (by assumption) (of_decide_eq_true (by assumption))]
  exact Zm (v := .tuple #[Zz (⟨(vR (((Ze l 5).1).getD 0 ⟨#[]⟩)), (vR (((Ze l 5).1).getD 1 ⟨#[]⟩)), (vR (((Ze l 5).1).getD 2 ⟨#[]⟩)), (vR (((Ze l 5).1).getD 3 ⟨#[]⟩)), (Zav (((Ze l 5).1).getD 4 ⟨#[]⟩)).1⟩ : Claim), Iv 0]) (by kernel_rfl) rfl rfl (by simp [Zac, rdB]) ⟨(Zbd (by kernel_rfl) rfl), rfl, trivial⟩
  refine Zef (vx := .bool (decide (Za8 (⟨(vR (((Ze l 5).1).getD 0 ⟨#[]⟩)), (vR (((Ze l 5).1).getD 1 ⟨#[]⟩)), (vR (((Ze l 5).1).getD 2 ⟨#[]⟩)), (vR (((Ze l 5).1).getD 3 ⟨#[]⟩)), (Zav (((Ze l 5).1).getD 4 ⟨#[]⟩)).1⟩ : Claim)))) rfl rfl (.bool true) rfl (Eq.trans Zb1 (congrArg (fun b => some (Value.bool !b)) h3)) ?_
  refine Zk rfl rfl (.bool true) rfl (Za (Zc (Z0 rfl (Zg (Zi ?_)))))
  refine Zaw (vs := []) (v := Zz (⟨0, 0, 0, 0, dz⟩ : Claim)) rfl rfl rfl (by kernel_rfl) ?_
  refine Zr (p := pt 1 0) (v := Zz (⟨0, 0, 0, 0, dz⟩ : Claim)) (b := 1) (blk := bxB 36 (Zw (⟨0, 0, 0, 0, dz⟩ : Claim))) (H' := [rdB l, bxB 36 (Zw (⟨0, 0, 0, 0, dz⟩ : Claim)), txB ((Ze l 5).1), dgB ((Zav (((Ze l 5).1).getD 4 ⟨#[]⟩)).1), bxB 36 (Zw (⟨(vR (((Ze l 5).1).getD 0 ⟨#[]⟩)), (vR (((Ze l 5).1).getD 1 ⟨#[]⟩)), (vR (((Ze l 5).1).getD 2 ⟨#[]⟩)), (vR (((Ze l 5).1).getD 3 ⟨#[]⟩)), (Zav (((Ze l 5).1).getD 4 ⟨#[]⟩)).1⟩ : Claim))]) rfl rfl rfl (by kernel_rfl) (by kernel_rfl) ?_
  refine Zb rfl rfl (Iv 60) rfl (Za (Zc (Zv (Z5 (Zu ?_)))))
  rw [show Z9 l = (⟨0, 0, 0, 0, dz⟩, 60) from by first | exact Zgc (.inl (by assumption)) | exact Zgc (.inr (.inl (by assumption))) | exact Zgc (.inr (.inr (of_decide_eq_false (by assumption))))]
  exact Zm (v := .tuple #[Zz (⟨0, 0, 0, 0, dz⟩ : Claim), Iv 60]) (by kernel_rfl) rfl rfl (by simp [Zac, rdB]) ⟨(Zbd (by kernel_rfl) rfl), rfl, trivial⟩
  refine Zef (vx := .bool ((Zav (((Ze l 5).1).getD 4 ⟨#[]⟩)).2)) rfl rfl (.bool true) rfl (Eq.trans Zb1 (congrArg (fun b => some (Value.bool !b)) h2)) ?_
  refine Zd rfl rfl (.bool true) rfl (Zf rfl rfl (Zf rfl rfl (Zf rfl rfl (Zk rfl rfl (.bool true) rfl (Za (Zc (Z0 rfl (Zg (Zi ?_)))))))))
  refine Zaw (vs := []) (v := Zz (⟨0, 0, 0, 0, dz⟩ : Claim)) rfl rfl rfl (by kernel_rfl) ?_
  refine Zr (p := pt 1 0) (v := Zz (⟨0, 0, 0, 0, dz⟩ : Claim)) (b := 1) (blk := bxB 36 (Zw (⟨0, 0, 0, 0, dz⟩ : Claim))) (H' := [rdB l, bxB 36 (Zw (⟨0, 0, 0, 0, dz⟩ : Claim)), txB ((Ze l 5).1), dgB ((Zav (((Ze l 5).1).getD 4 ⟨#[]⟩)).1), bxB 36 (Zw (⟨(vR (((Ze l 5).1).getD 0 ⟨#[]⟩)), (vR (((Ze l 5).1).getD 1 ⟨#[]⟩)), (vR (((Ze l 5).1).getD 2 ⟨#[]⟩)), (vR (((Ze l 5).1).getD 3 ⟨#[]⟩)), (Zav (((Ze l 5).1).getD 4 ⟨#[]⟩)).1⟩ : Claim))]) rfl rfl rfl (by kernel_rfl) (by kernel_rfl) ?_
  refine Zb rfl rfl (Iv 60) rfl (Za (Zc (Zv (Z5 (Zu ?_)))))
  rw [show Z9 l = (⟨0, 0, 0, 0, dz⟩, 60) from by first | exact Zgc (.inl (by assumption)) | exact Zgc (.inr (.inl (by assumption))) | exact Zgc (.inr (.inr (of_decide_eq_false (by assumption))))]
  exact Zm (v := .tuple #[Zz (⟨0, 0, 0, 0, dz⟩ : Claim), Iv 60]) (by kernel_rfl) rfl rfl (by simp [Zac, rdB]) ⟨(Zbd (by kernel_rfl) rfl), rfl, trivial⟩
  refine Zef (vx := .bool ((Ze l 5).2)) rfl rfl (.bool true) rfl (Eq.trans Zb1 (congrArg (fun b => some (Value.bool !b)) h1)) ?_
  refine Za (Zc (Z0 rfl (Zg (Zi ?_))))
  refine Zaw (vs := []) (v := Zz (⟨0, 0, 0, 0, dz⟩ : Claim)) rfl rfl rfl (by kernel_rfl) ?_
  refine Zr (p := pt 1 0) (v := Zz (⟨0, 0, 0, 0, dz⟩ : Claim)) (b := 1) (blk := bxB 36 (Zw (⟨0, 0, 0, 0, dz⟩ : Claim))) (H' := [rdB l, bxB 36 (Zw (⟨0, 0, 0, 0, dz⟩ : Claim)), txB ((Ze l 5).1), hole, hole]) rfl rfl rfl (by kernel_rfl) (by kernel_rfl) ?_
  refine Zb rfl rfl (Iv 60) rfl (Za (Zc (Zv (Z5 (Zu ?_)))))
  rw [show Z9 l = (⟨0, 0, 0, 0, dz⟩, 60) from by first | exact Zgc (.inl (by assumption)) | exact Zgc (.inr (.inl (by assumption))) | exact Zgc (.inr (.inr (of_decide_eq_false (by assumption))))]
  exact Zm (v := .tuple #[Zz (⟨0, 0, 0, 0, dz⟩ : Claim), Iv 60]) (by kernel_rfl) rfl rfl (by simp [Zac, rdB]) ⟨(Zbd (by kernel_rfl) rfl), rfl, trivial⟩
theorem Z27 (l : Bs) (n c : Nat) (hn : l.length = n) (hc : n ≤ c) (hb : n ≤ 1048576) (hcc : c ≤ 9223372036854775807) : Zao Tryd.prog G 82 [slv 0 0 n c] [rdB l] (.tuple #[Zaa (Zb9 l).1, Iv (Zb9 l).2]) [rdB l] := by
 subst hn; exact Zpk (G := G) l c hc (by omega) hcc
theorem Z3g (l : Bs) (n c : Nat) (hn : l.length = n) (hc : n ≤ c) (hb : n ≤ 1048576) (hcc : c ≤ 9223372036854775807) : Zao Tryd.prog G 21 [slv 0 0 n c] [rdB l] (.tuple #[Zz (Z9 l).1, Iv (Z9 l).2]) [rdB l] := by
 subst hn; exact Zmx (G := G) l c hc (by omega) hcc
end Go.Flat
