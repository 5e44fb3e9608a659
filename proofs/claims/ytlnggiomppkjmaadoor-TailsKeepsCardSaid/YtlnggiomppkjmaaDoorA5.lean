/- Walks. -/
import Derived.Test.YtlnggiomppkjmaaDoorA4
set_option linter.unusedVariables false
set_option linter.unusedSimpArgs false
set_option maxRecDepth 20000
namespace Go.Flat
open Go.Proofs
variable {G : Glob}
theorem Zus : IsOver Tryd.prog 49 4 := ⟨⟨22, 4, 26, by kernel_rfl, fun w => Zb4 (P := Tryd.prog) (t := 26) rfl w, fun args w => run_callFunc_extern (fn := Tryd.f49) rfl (by kernel_rfl) (by kernel_rfl) (by kernel_rfl) (by kernel_rfl) args w⟩⟩
theorem Z1g (a : TailT) (n c : Nat) (hn : a.items.length = n) (hc : n ≤ c) (hb : n ≤ 1048576) (b : TailT) (n' c' : Nat) (hn' : b.items.length = n') (hc' : n' ≤ c') (hb' : n' ≤ 1048576) : Z6 Tryd.prog G 36 [mxV ([Iv a.node, Iv a.log, Iv a.commit, slv 0 0 n c]), pt 1 0] [rwR Zi a.items, mxB 4 ([Iv b.node, Iv b.log, Iv b.commit, slv 2 0 n' c']), rwR Zi b.items] (.bool (decide (a.node = b.node))) [rwR Zi a.items, mxB 4 ([Iv b.node, Iv b.log, Iv b.commit, slv 2 0 n' c']), rwR Zi b.items] := by
  refine Zbh (fn := Tryd.f36) (nt := 9) rfl rfl rfl rfl ?_
  refine Zaf 1 (H' := [rwR Zi a.items, mxB 4 ([Iv b.node, Iv b.log, Iv b.commit, slv 2 0 n' c']), rwR Zi b.items, hole]) rfl ?_
  refine Zf (Zg (Zb7 (v := mxV ([Iv a.node, Iv a.log, Iv a.commit, slv 0 0 n c])) (b := mxB 4 ([Iv a.node, Iv a.log, Iv a.commit, slv 0 0 n c])) (nid := 3) (H' := [rwR Zi a.items, mxB 4 ([Iv b.node, Iv b.log, Iv b.commit, slv 2 0 n' c']), rwR Zi b.items, mxB 4 ([Iv a.node, Iv a.log, Iv a.commit, slv 0 0 n c])]) (Zb (.bool false) (Za (Zc (Zf (Zg (Zh (b := 3) (o := 0) (n := 0) (o' := 0) (Zn (p := pt 3 0) (v := Iv a.node) (Zh (b := 1) (o := 0) (n := 0) (o' := 0) (Zn (p := pt 1 0) (v := Iv b.node) ?_)))))))))))
  by_cases h1 : a.node = b.node
  refine Zl (vx := Iv a.node) (vy := Iv b.node) rfl rfl (.bool true) rfl rfl (Zdp (by omega)) ?_
  refine Zb (.bool true) (Za (Zc (Zr (Zt ?_))))
  rw [show decide (a.node = b.node) = true from by first | exact decide_eq_true (by omega) | exact decide_eq_false (by omega) | rfl]
  exact Zm (v := .bool true) rfl rfl rfl (by kernel_rfl) rfl
  refine Zl (vx := Iv a.node) (vy := Iv b.node) rfl rfl (.bool false) rfl rfl (Zef (by omega)) ?_
  refine Zb (.bool false) (Za (Zc (Zr (Zt ?_))))
  rw [show decide (a.node = b.node) = false from by first | exact decide_eq_true (by omega) | exact decide_eq_false (by omega) | rfl]
  exact Zm (v := .bool false) rfl rfl rfl (by kernel_rfl) rfl
theorem Z1h (a : TailT) (n c : Nat) (hn : a.items.length = n) (hc : n ≤ c) (hb : n ≤ 1048576) (b : TailT) (n' c' : Nat) (hn' : b.items.length = n') (hc' : n' ≤ c') (hb' : n' ≤ 1048576) : Z6 Tryd.prog G 38 [mxV ([Iv a.node, Iv a.log, Iv a.commit, slv 0 0 n c]), pt 1 0] [rwR Zi a.items, mxB 4 ([Iv b.node, Iv b.log, Iv b.commit, slv 2 0 n' c']), rwR Zi b.items] (.bool (decide (b.node < a.node))) [rwR Zi a.items, mxB 4 ([Iv b.node, Iv b.log, Iv b.commit, slv 2 0 n' c']), rwR Zi b.items] := by
  refine Zbh (fn := Tryd.f38) (nt := 9) rfl rfl rfl rfl ?_
  refine Zaf 1 (H' := [rwR Zi a.items, mxB 4 ([Iv b.node, Iv b.log, Iv b.commit, slv 2 0 n' c']), rwR Zi b.items, hole]) rfl ?_
  refine Zf (Zg (Zb7 (v := mxV ([Iv a.node, Iv a.log, Iv a.commit, slv 0 0 n c])) (b := mxB 4 ([Iv a.node, Iv a.log, Iv a.commit, slv 0 0 n c])) (nid := 3) (H' := [rwR Zi a.items, mxB 4 ([Iv b.node, Iv b.log, Iv b.commit, slv 2 0 n' c']), rwR Zi b.items, mxB 4 ([Iv a.node, Iv a.log, Iv a.commit, slv 0 0 n c])]) (Zb (.bool false) (Za (Zc (Zf (Zg (Zh (b := 3) (o := 0) (n := 0) (o' := 0) (Zn (p := pt 3 0) (v := Iv a.node) (Zh (b := 1) (o := 0) (n := 0) (o' := 0) (Zn (p := pt 1 0) (v := Iv b.node) ?_)))))))))))
  by_cases h1 : b.node < a.node
  refine Zl (vx := Iv a.node) (vy := Iv b.node) rfl rfl (.bool true) rfl rfl (Zfs (by omega)) ?_
  refine Zb (.bool true) (Za (Zc (Zr (Zt ?_))))
  rw [show decide (b.node < a.node) = true from by first | exact decide_eq_true (by omega) | exact decide_eq_false (by omega) | rfl]
  exact Zm (v := .bool true) rfl rfl rfl (by kernel_rfl) rfl
  refine Zl (vx := Iv a.node) (vy := Iv b.node) rfl rfl (.bool false) rfl rfl (Zfr (by omega)) ?_
  refine Zb (.bool false) (Za (Zc (Zr (Zt ?_))))
  rw [show decide (b.node < a.node) = false from by first | exact decide_eq_true (by omega) | exact decide_eq_false (by omega) | rfl]
  exact Zm (v := .bool false) rfl rfl rfl (by kernel_rfl) rfl
theorem Z2a  : Z6 Tryd.prog G 37 [slv 0 0 1 1, .func (.func 36) #[] #[pt 2 0]] [mxR 4 ([Iv 2, Iv 1, Iv 0, slv 1 0 1 1]), rwR Zi (Zx 1), mxB 4 ([Iv 1, Iv 1, Iv 0, slv 3 0 2 2]), rwR Zi (Zx 2)] (Iv (-1)) [mxR 4 ([Iv 2, Iv 1, Iv 0, slv 1 0 1 1]), rwR Zi (Zx 1), mxB 4 ([Iv 1, Iv 1, Iv 0, slv 3 0 2 2]), rwR Zi (Zx 2)] := by
  refine Zbh (fn := Tryd.f37) (nt := 19) rfl rfl rfl rfl ?_
  refine Zf (Zg (Zb (Iv 0) (Za (Zc (Zf (Zf (Zg (Zd (slv 0 0 1 1) (Zaw (p := slv 0 0 1 1) (v := Iv 1) (Zd (Iv 0) (Za (Zc (Z8 ?_)))))))))))))
  refine Zn0 2 ?_
  refine Zl2 (Zf (Zg ?_))
  refine Zl (vx := Iv 0) (vy := Iv 1) rfl rfl (.bool true) rfl rfl (Zck (by omega)) ?_
  refine Za (Zc (Zf (Zy rfl (Zz (Zc (Zf (Z8 (Zf (Zg (Zd (Iv 0) (Zb (Iv 0) (Za (Zc (Zf (Zg (Zd (.func (.func 36) #[] #[pt 2 0]) (Zd (slv 0 0 1 1) (Zd (Iv 0) ?_))))))))))))))))))
  refine Zbo (b := 0) (o := 0) (j := 0) (m := 1) (c := 1) (sz := 4) (i := 0) (k := .i64) rfl rfl rfl rfl rfl (by omega) (by omega) (by omega) ?_
  refine Zn (p := pt 0 0) (v := mxV ([Iv 2, Iv 1, Iv 0, slv 1 0 1 1])) ?_
  refine Z5 (e := [some (1, 0), some (2, 0), some (3, 0)]) (nid := 0) (Z1g (G := G) (⟨2, 1, 0, (Zx 1)⟩ : TailT) 1 1 (Zc1 1) (by omega) (by omega) (⟨1, 1, 0, (Zx 2)⟩ : TailT) 2 2 (Zc1 2) (by omega) (by omega)) (vals := [mxV ([Iv 2, Iv 1, Iv 0, slv 1 0 1 1]), pt 2 0]) (v := .bool false) (H' := [mxR 4 ([Iv 2, Iv 1, Iv 0, slv 1 0 1 1]), rwR Zi (Zx 1), mxB 4 ([Iv 1, Iv 1, Iv 0, slv 3 0 2 2]), rwR Zi (Zx 2)]) rfl rfl rfl rfl rfl rfl rfl ⟨⟨(Zce (by kernel_rfl) ⟨⟨rfl, rfl⟩, ⟨rfl, rfl⟩, ⟨rfl, rfl⟩, ⟨rfl, rfl, rfl, by first | omega | exact Nat.le_refl _, by first | omega | exact Nat.le_refl _⟩, trivial⟩), ⟨rfl, rfl⟩, trivial⟩, ⟨(Zbr rfl), (Zad rfl rfl rfl (by kernel_rfl)), (Zbr rfl), trivial⟩, rfl, rfl, rfl⟩ (by kernel_rfl) (by kernel_rfl) ?_
  refine Za (Zc (Zu rfl (Zz (Z7 (Zc (Zg ?_))))))
  refine Zl (vx := Iv 0) (vy := Iv 1) rfl rfl (Iv 1) rfl rfl (Zak (by omega) (by omega) (by omega)) ?_
  refine Zd (Iv 1) (Za (Zwl (Zl2 (Zf (Zg ?_)))))
  refine Zl (vx := Iv 1) (vy := Iv 1) rfl rfl (.bool false) rfl rfl (Zcd (by omega)) ?_
  refine Za (Zc (Zf (Zu rfl (Zbm (Zaq (Zax (Zav rfl (Zc (Zf (Zg (Zb (Iv (-1)) (Za (Zc (Zr (Zt ?_)))))))))))))))
  exact Zm (v := Iv (-1)) rfl rfl rfl (by kernel_rfl) rfl
theorem Z2b  : Z6 Tryd.prog G 37 [slv 0 0 1 1, .func (.func 38) #[] #[pt 2 0]] [mxR 4 ([Iv 2, Iv 1, Iv 0, slv 1 0 1 1]), rwR Zi (Zx 1), mxB 4 ([Iv 1, Iv 1, Iv 0, slv 3 0 2 2]), rwR Zi (Zx 2)] (Iv 0) [mxR 4 ([Iv 2, Iv 1, Iv 0, slv 1 0 1 1]), rwR Zi (Zx 1), mxB 4 ([Iv 1, Iv 1, Iv 0, slv 3 0 2 2]), rwR Zi (Zx 2)] := by
  refine Zbh (fn := Tryd.f37) (nt := 19) rfl rfl rfl rfl ?_
  refine Zf (Zg (Zb (Iv 0) (Za (Zc (Zf (Zf (Zg (Zd (slv 0 0 1 1) (Zaw (p := slv 0 0 1 1) (v := Iv 1) (Zd (Iv 0) (Za (Zc (Z8 ?_)))))))))))))
  refine Zn0 2 ?_
  refine Zl2 (Zf (Zg ?_))
  refine Zl (vx := Iv 0) (vy := Iv 1) rfl rfl (.bool true) rfl rfl (Zck (by omega)) ?_
  refine Za (Zc (Zf (Zy rfl (Zz (Zc (Zf (Z8 (Zf (Zg (Zd (Iv 0) (Zb (Iv 0) (Za (Zc (Zf (Zg (Zd (.func (.func 38) #[] #[pt 2 0]) (Zd (slv 0 0 1 1) (Zd (Iv 0) ?_))))))))))))))))))
  refine Zbo (b := 0) (o := 0) (j := 0) (m := 1) (c := 1) (sz := 4) (i := 0) (k := .i64) rfl rfl rfl rfl rfl (by omega) (by omega) (by omega) ?_
  refine Zn (p := pt 0 0) (v := mxV ([Iv 2, Iv 1, Iv 0, slv 1 0 1 1])) ?_
  refine Z5 (e := [some (1, 0), some (2, 0), some (3, 0)]) (nid := 0) (Z1h (G := G) (⟨2, 1, 0, (Zx 1)⟩ : TailT) 1 1 (Zc1 1) (by omega) (by omega) (⟨1, 1, 0, (Zx 2)⟩ : TailT) 2 2 (Zc1 2) (by omega) (by omega)) (vals := [mxV ([Iv 2, Iv 1, Iv 0, slv 1 0 1 1]), pt 2 0]) (v := .bool true) (H' := [mxR 4 ([Iv 2, Iv 1, Iv 0, slv 1 0 1 1]), rwR Zi (Zx 1), mxB 4 ([Iv 1, Iv 1, Iv 0, slv 3 0 2 2]), rwR Zi (Zx 2)]) rfl rfl rfl rfl rfl rfl rfl ⟨⟨(Zce (by kernel_rfl) ⟨⟨rfl, rfl⟩, ⟨rfl, rfl⟩, ⟨rfl, rfl⟩, ⟨rfl, rfl, rfl, by first | omega | exact Nat.le_refl _, by first | omega | exact Nat.le_refl _⟩, trivial⟩), ⟨rfl, rfl⟩, trivial⟩, ⟨(Zbr rfl), (Zad rfl rfl rfl (by kernel_rfl)), (Zbr rfl), trivial⟩, rfl, rfl, rfl⟩ (by kernel_rfl) (by kernel_rfl) ?_
  refine Za (Zc (Zy rfl (Zf (Zg (Zd (Iv 0) (Zb (Iv 0) (Za (Zc (Zr (Zar (Z2 (Zcy (Zar (Z2 (Zt ?_)))))))))))))))
  exact Zm (v := Iv 0) rfl rfl rfl (by kernel_rfl) rfl
theorem Z10  : Z6 Tryd.prog G 34 [slv 0 0 1 1, .func (.func 36) #[] #[pt 2 0]] [mxR 4 ([Iv 2, Iv 1, Iv 0, slv 1 0 1 1]), rwR Zi (Zx 1), mxB 4 ([Iv 1, Iv 1, Iv 0, slv 3 0 2 2]), rwR Zi (Zx 2)] (slv 0 0 1 1) [mxR 4 ([Iv 2, Iv 1, Iv 0, slv 1 0 1 1]), rwR Zi (Zx 1), mxB 4 ([Iv 1, Iv 1, Iv 0, slv 3 0 2 2]), rwR Zi (Zx 2)] := by
  refine Zbh (fn := Tryd.f34) (nt := 42) rfl rfl rfl rfl ?_
  refine Zf (Zg (Zb (.slice none 0 0) (Za (Zc (Zf (Zg (Zd (slv 0 0 1 1) (Zd (.func (.func 36) #[] #[pt 2 0]) ?_))))))))
  refine Z5 (e := [some (0, 0), some (1, 0), some (2, 0), some (3, 0)]) (nid := 0) (Z2a (G := G)) (vals := [slv 0 0 1 1, .func (.func 36) #[] #[pt 2 0]]) (v := Iv (-1)) (H' := [mxR 4 ([Iv 2, Iv 1, Iv 0, slv 1 0 1 1]), rwR Zi (Zx 1), mxB 4 ([Iv 1, Iv 1, Iv 0, slv 3 0 2 2]), rwR Zi (Zx 2)]) rfl rfl rfl rfl rfl rfl rfl ⟨⟨⟨rfl, rfl, rfl, by first | omega | exact Nat.le_refl _, by first | omega | exact Nat.le_refl _⟩, ⟨by kernel_rfl, by kernel_rfl⟩, trivial⟩, ⟨(Zco rfl rfl (Nat.le_refl _) (by kernel_rfl)), (Zbr rfl), (Zad rfl rfl rfl (by kernel_rfl)), (Zbr rfl), trivial⟩, rfl, rfl, rfl⟩ (by kernel_rfl) (by kernel_rfl) ?_
  refine Zb (Iv (-1)) (Za (Zc (Zf (Zf (Zg (Zd (Iv (-1)) ?_))))))
  refine Zl (vx := Iv (-1)) (vy := Iv (-1)) rfl rfl (.bool true) rfl rfl (Zdp (by omega)) ?_
  refine Za (Zc (Zy rfl (Zf (Zg (Zd (slv 0 0 1 1) (Zb (slv 0 0 1 1) (Za (Zc (Zr (Z2 (Zt ?_)))))))))))
  exact Zm (v := slv 0 0 1 1) rfl rfl rfl (by simp [Zbe, rwR, mxR, mxB, Zi, Zan, Zcx, slv, Zib, Zeg]) ⟨rfl, rfl, rfl, by first | omega | exact Nat.le_refl _ | exact Nat.zero_le _ | (dsimp only; omega), by first | omega | exact Nat.le_refl _ | exact Nat.zero_le _ | (dsimp only; omega)⟩
abbrev Y11  : Blk := mxR 4 ([Iv 2, Iv 1, Iv 0, slv 1 0 1 1])
theorem Zw3  : Z6 Tryd.prog G 35 [slv 0 0 1 1, .func (.func 30) #[] #[]] [mxR 4 ([Iv 2, Iv 1, Iv 0, slv 1 0 1 1]), rwR Zi (Zx 1)] (slv 2 0 1 1) [mxR 4 ([Iv 2, Iv 1, Iv 0, slv 1 0 1 1]), rwR Zi (Zx 1), mxW 4 ([Iv 2, Iv 1, Iv 0, slv 3 0 1 1]), rwB Zi (Zx 1)] := by
  refine Zbh (fn := Tryd.f35) (nt := 22) rfl rfl rfl rfl ?_
  refine Zaf 6 (H' := [Y11, rwR Zi (Zx 1), hole, hole, hole, hole, hole, hole]) rfl ?_
  refine Zf (Zg (Zb (.slice none 0 0) (Za (Zc (Zf (Zg (Zb (.slice none 0 0) (Za (Zc (Zf (Zf (Zg (Zd (slv 0 0 1 1) (Zaw (p := slv 0 0 1 1) (v := Iv 1) (Zd (Iv 0) (Za (Zc (Z8 ?_))))))))))))))))))
  refine Zn0 2 ?_
  refine Zl2 (Zf (Zg ?_))
  refine Zl (vx := Iv 0) (vy := Iv 1) rfl rfl (.bool true) rfl rfl (Zck (by omega)) ?_
  refine Za (Zc (Zf (Zy rfl (Zz (Zc (Zf (Z8 (Zf (Zg ?_)))))))))
  refine Zbo (b := 0) (o := 0) (j := 0) (m := 1) (c := 1) (sz := 4) (i := 0) (k := .i64) rfl rfl rfl rfl rfl (by omega) (by omega) (by omega) ?_
  refine Zn (p := pt 0 0) (v := mxV ([Iv 2, Iv 1, Iv 0, slv 1 0 1 1])) (Za9 (b := mxB 4 ([Iv 0, Iv 0, Iv 0, .slice none 0 0])) (nid := 2) (H' := [Y11, rwR Zi (Zx 1), mxB 4 ([Iv 0, Iv 0, Iv 0, .slice none 0 0]), hole, hole, hole, hole, hole]) (Zab (p := pt 2 0) (v := mxV ([Iv 2, Iv 1, Iv 0, slv 1 0 1 1])) (b := 2) (blk := mxB 4 ([Iv 2, Iv 1, Iv 0, slv 1 0 1 1])) (H' := [Y11, rwR Zi (Zx 1), mxB 4 ([Iv 2, Iv 1, Iv 0, slv 1 0 1 1]), hole, hole, hole, hole, hole]) (Za (Zc (Zg (Zd (.slice none 0 0) (Zd (.func (.func 30) #[] #[]) (Zn (p := pt 2 0) (v := mxV ([Iv 2, Iv 1, Iv 0, slv 1 0 1 1])) ?_))))))))
  refine Z5 (e := [some (1, 0)]) (nid := 3) (Zre (G := G) (⟨2, 1, 0, (Zx 1)⟩ : TailT) 1 1 (Zc1 1) (by omega) (by omega)) (vals := [mxV ([Iv 2, Iv 1, Iv 0, slv 1 0 1 1])]) (v := mxV ([Iv 2, Iv 1, Iv 0, slv 3 0 1 1])) (H' := [Y11, rwR Zi (Zx 1), mxB 4 ([Iv 2, Iv 1, Iv 0, slv 1 0 1 1]), rwB Zi (Zx 1), hole, hole, hole, hole]) rfl rfl rfl rfl rfl rfl rfl ⟨⟨(Zce (by kernel_rfl) ⟨⟨rfl, rfl⟩, ⟨rfl, rfl⟩, ⟨rfl, rfl⟩, ⟨rfl, rfl, rfl, by first | omega | exact Nat.le_refl _, by first | omega | exact Nat.le_refl _⟩, trivial⟩), trivial⟩, ⟨(Zbr rfl), trivial⟩, rfl, rfl, rfl⟩ (by kernel_rfl) (by kernel_rfl) ?_
  refine Zep (vs := [(0, mxV ([Iv 2, Iv 1, Iv 0, slv 3 0 1 1]))]) (v := slv 4 0 1 1) (blk := mxW 4 ([Iv 2, Iv 1, Iv 0, slv 3 0 1 1])) (nid := 4) (H' := [Y11, rwR Zi (Zx 1), mxB 4 ([Iv 2, Iv 1, Iv 0, slv 1 0 1 1]), rwB Zi (Zx 1), mxW 4 ([Iv 2, Iv 1, Iv 0, slv 3 0 1 1]), hole, hole, hole]) rfl rfl rfl (by kernel_rfl) (by kernel_rfl) ?_
  refine Z4v (p := .slice none 0 0) (q := slv 4 0 1 1) (v := slv 5 0 1 1) (blk := mxW 4 ([Iv 2, Iv 1, Iv 0, slv 3 0 1 1])) (nid := 5) (H' := [Y11, rwR Zi (Zx 1), mxB 4 ([Iv 2, Iv 1, Iv 0, slv 1 0 1 1]), rwB Zi (Zx 1), mxW 4 ([Iv 2, Iv 1, Iv 0, slv 3 0 1 1]), mxW 4 ([Iv 2, Iv 1, Iv 0, slv 3 0 1 1]), hole, hole]) rfl rfl rfl (.inl ⟨_, rfl⟩) rfl rfl (by kernel_rfl) (by kernel_rfl) ?_
  refine Zb (slv 5 0 1 1) (Za (Z7 (Zc (Zg ?_))))
  refine Zl (vx := Iv 0) (vy := Iv 1) rfl rfl (Iv 1) rfl rfl (Zak (by omega) (by omega) (by omega)) ?_
  refine Zd (Iv 1) (Za (Zwl (Zl2 (Zf (Zg ?_)))))
  refine Zl (vx := Iv 1) (vy := Iv 1) rfl rfl (.bool false) rfl rfl (Zcd (by omega)) ?_
  refine Za (Zc (Zf (Zu rfl (Zbm (Zaq (Zax (Zav rfl (Zc (Zf (Zg (Zd (slv 5 0 1 1) (Zb (slv 5 0 1 1) (Za (Zc ?_))))))))))))))
  refine Zca (Zt0 [some (0, 0), some (1, 0), some (5, 0), some (3, 0)] (H' := [Y11, rwR Zi (Zx 1), mxW 4 ([Iv 2, Iv 1, Iv 0, slv 3 0 1 1]), rwB Zi (Zx 1)]) (l := [dead, dead, dead, dead, slv 2 0 1 1]) ⟨(Zco rfl rfl (Nat.le_refl _) (by kernel_rfl)), (Zco rfl rfl (Nat.le_refl _) (by kernel_rfl)), (Zad rfl rfl rfl (by kernel_rfl)), (Zad rfl rfl rfl (by kernel_rfl)), trivial⟩ (by kernel_rfl) (by kernel_rfl) rfl rfl ⟨.inl rfl, ⟨.inl rfl, ⟨.inl rfl, ⟨.inl rfl, ⟨.inr ⟨rfl, rfl, rfl, Nat.le_refl _, Nat.le_refl _⟩, trivial⟩⟩⟩⟩⟩) ?_
  refine Zr (Zt ?_)
  exact Zm (v := slv 2 0 1 1) rfl rfl rfl (by simp [Zbe, rwR, rwB, mxR, mxW, Zi, Zan, Zcx, slv, Zib, Zeg]) ⟨rfl, rfl, rfl, by first | omega | exact Nat.le_refl _ | exact Nat.zero_le _ | (dsimp only; omega), by first | omega | exact Nat.le_refl _ | exact Nat.zero_le _ | (dsimp only; omega)⟩
abbrev Y12  : Blk := (mxL 4 ([Iv 1, Iv 1, Iv 0, slv 3 0 2 2]))
theorem Z19 : Z6 Tryd.prog G 39 [slv 0 0 1 1, Iv 0, slv 2 0 1 1] [(mxW 4 ([Iv 2, Iv 1, Iv 0, slv 1 0 1 1])), rwR Zi (Zx 1), (mxL 4 ([Iv 1, Iv 1, Iv 0, slv 3 0 2 2])), rwR Zi (Zx 2)] (slv 0 0 2 2) [(mxW 4 ([Iv 1, Iv 1, Iv 0, slv 3 0 2 2, Iv 2, Iv 1, Iv 0, slv 1 0 1 1])), rwR Zi (Zx 1), (mxL 4 ([Iv 1, Iv 1, Iv 0, slv 3 0 2 2])), rwR Zi (Zx 2)] := by
  refine Zbh (fn := Tryd.f39) (nt := 95) rfl rfl rfl rfl ?_
  refine Z1n (b := 0) (i := 0) (n := 1) (cc := 1) (sz := 4) (l := [dead, Iv 0, slv 2 0 1 1]) rfl rfl rfl (Zj (.inr rfl) (Zj (.inl rfl) (Zj (.inr rfl) (Zj (.inl rfl) Zds)))) ⟨.inl rfl, .inr ⟨rfl, rfl⟩, .inr ⟨rfl, rfl⟩, trivial⟩ (fun k => ?_)
  rcases k with _ | k
  · refine Zgz (H' := [(exB 4 ([Iv 2, Iv 1, Iv 0, slv 1 0 1 1])), rwR Zi (Zx 1), Y12, rwR Zi (Zx 2)]) (by kernel_rfl) ?_
    refine Zaf 1 (H' := [(exB 4 ([Iv 2, Iv 1, Iv 0, slv 1 0 1 1])), rwR Zi (Zx 1), Y12, rwR Zi (Zx 2), hole]) rfl ?_
    refine Zf (Zg (Zb (.slice none 0 0) (Za (Zc (Zf (Zg (Zd (slv 0 0 1 1) (Zd (Iv 0) ?_))))))))
    refine Zcz (p := slv 0 0 1 1) (vl := some (Iv 0)) (vh := none) (v := slv 0 0 1 1) rfl rfl rfl rfl rfl (Ze2 (sz := 4) (l := 0) rfl rfl rfl (by omega) (by omega) (by omega) rfl (by omega) (by omega) (by omega)) ?_
    refine Za (Zc (Zf (Zg (Zd (slv 2 0 1 1) (Zaw (p := slv 2 0 1 1) (v := Iv 1) (Zb (Iv 1) (Za (Zc (Zf (Zf (Zg (Zd (Iv 1) ?_))))))))))))
    refine Zl (vx := Iv 1) (vy := Iv 0) rfl rfl (.bool false) rfl rfl (Zef (by omega)) ?_
    refine Za (Zc (Zu rfl (Zz (Zc (Zf (Zg (Zd (slv 0 0 1 1) (Zaw (p := slv 0 0 1 1) (v := Iv 1) (Zb (Iv 1) (Za (Zc (Zf (Zf (Zg (Zd (Iv 0) (Zd (Iv 1) ?_))))))))))))))))
    refine Zl (vx := Iv 0) (vy := Iv 1) rfl rfl (.bool false) rfl rfl (Zef (by omega)) ?_
    refine Za (Zc (Zu rfl (Zz (Zc (Zf (Zf (Zg (Zd (Iv 1) (Zd (Iv 1) ?_)))))))))
    refine Zl (vx := Iv 1) (vy := Iv 1) rfl rfl (Iv 2) rfl rfl (Zak (by omega) (by omega) (by omega)) ?_
    refine Zd (slv 0 0 1 1) ?_
    refine Z3m (p := slv 0 0 1 1) (v := Iv 1) rfl rfl rfl (by kernel_rfl) ?_
    refine Zl (vx := Iv 2) (vy := Iv 1) rfl rfl (.bool true) rfl rfl (Zfs (by omega)) ?_
    refine Za (Zc (Zy rfl (Zf (Zg (Zd (slv 0 0 1 1) (Zd (Iv 0) ?_))))))
    refine Zcz (p := slv 0 0 1 1) (vl := none) (vh := some (Iv 0)) (v := slv 0 0 0 1) rfl rfl rfl rfl rfl (Zjp (h := 0) rfl rfl (by omega) (by omega) rfl) ?_
    refine Zd (Iv 1) (Zd (Iv 1) ?_)
    refine Zl (vx := Iv 1) (vy := Iv 1) rfl rfl (Iv 2) rfl rfl (Zak (by omega) (by omega) (by omega)) ?_
    refine Zd (Iv 0) ?_
    refine Zl (vx := Iv 2) (vy := Iv 0) rfl rfl (Iv 2) rfl rfl (Zhh (by omega) (by omega) (by omega)) ?_
    refine Z4w (p := slv 0 0 0 1) (q := Iv 2) (v := slv 4 0 2 2) (blk := (mxW 4 ([dead, dead, dead, dead, dead, dead, dead, dead]))) (nid := 4) (H' := [(exB 4 ([Iv 2, Iv 1, Iv 0, slv 1 0 1 1])), rwR Zi (Zx 1), Y12, rwR Zi (Zx 2), (mxW 4 ([dead, dead, dead, dead, dead, dead, dead, dead]))]) rfl rfl rfl rfl rfl (by kernel_rfl) (by kernel_rfl) ?_
    refine Zb (slv 4 0 2 2) (Za (Zc (Zf (Zg (Zd (slv 4 0 2 2) (Zd (Iv 0) ?_))))))
    refine Zcz (p := slv 4 0 2 2) (vl := some (Iv 0)) (vh := none) (v := slv 4 0 2 2) rfl rfl rfl rfl rfl (Ze2 (sz := 4) (l := 0) rfl rfl rfl (by omega) (by omega) (by omega) rfl (by omega) (by omega) (by omega)) ?_
    refine Zd (slv 2 0 1 1) ?_
    refine Zox (p := slv 4 0 2 2) (q := slv 2 0 1 1) (v := Iv 1) (b := 4) (blk := (mxW 4 ([Iv 1, Iv 1, Iv 0, slv 3 0 2 2, dead, dead, dead, dead]))) (H' := [(exB 4 ([Iv 2, Iv 1, Iv 0, slv 1 0 1 1])), rwR Zi (Zx 1), Y12, rwR Zi (Zx 2), (mxW 4 ([Iv 1, Iv 1, Iv 0, slv 3 0 2 2, dead, dead, dead, dead]))]) rfl rfl rfl rfl (by kernel_rfl) (by kernel_rfl) ?_
    refine Za (Zc (Zf ?_))
    refine Zgh (by kernel_rfl) ?_
    refine Zd (slv 4 0 2 2) (Zd (Iv 0) (Zd (Iv 1) ?_))
    refine Zl (vx := Iv 0) (vy := Iv 1) rfl rfl (Iv 1) rfl rfl (Zak (by omega) (by omega) (by omega)) ?_
    refine Zcz (p := slv 4 0 2 2) (vl := some (Iv 1)) (vh := none) (v := slv 4 4 1 1) rfl rfl rfl rfl rfl (Ze2 (sz := 4) (l := 1) rfl rfl rfl (by omega) (by omega) (by omega) rfl (by omega) (by omega) (by omega)) ?_
    refine Zd (slv 0 0 1 1) (Zd (Iv 0) ?_)
    refine Zcz (p := slv 0 0 1 1) (vl := some (Iv 0)) (vh := none) (v := slv 0 0 1 1) rfl rfl rfl rfl rfl (Ze2 (sz := 4) (l := 0) rfl rfl rfl (by omega) (by omega) (by omega) rfl (by omega) (by omega) (by omega)) ?_
    refine Zox (p := slv 4 4 1 1) (q := slv 0 0 1 1) (v := Iv 1) (b := 4) (blk := (mxW 4 ([Iv 1, Iv 1, Iv 0, slv 3 0 2 2, Iv 2, Iv 1, Iv 0, slv 1 0 1 1]))) (H' := [(exB 4 ([Iv 2, Iv 1, Iv 0, slv 1 0 1 1])), rwR Zi (Zx 1), Y12, rwR Zi (Zx 2), (mxW 4 ([Iv 1, Iv 1, Iv 0, slv 3 0 2 2, Iv 2, Iv 1, Iv 0, slv 1 0 1 1]))]) rfl rfl rfl rfl (by kernel_rfl) (by kernel_rfl) ?_
    refine Zdm (Zc4 [[], [], [], [1, 2], [0, 1, 2, 3], [], [], [5, 6], [0, 1, 2, 3, 4, 5, 6, 7]] (by kernel_rfl) (by kernel_rfl)) ?_
    refine Zc (Zf (Zg (Zd (slv 4 0 2 2) (Zb (slv 4 0 2 2) (Za (Zc ?_))))))
    refine Zca (Za7.moveTo (b := 0) (j := 4) (i := 6) (n := 2) (cc := 2) (l := []) (by decide) rfl ⟨rfl, rfl⟩ rfl ⟨rfl, rfl⟩ rfl (Zj (.inr rfl) (Zj (.inl rfl) (Zj (.inr rfl) (Zj (.inl rfl) (Zj (.inr rfl) Zds))))) trivial) ?_
    refine Zgz (H' := [(mxW 4 ([Iv 1, Iv 1, Iv 0, slv 3 0 2 2, Iv 2, Iv 1, Iv 0, slv 1 0 1 1])), rwR Zi (Zx 1), Y12, rwR Zi (Zx 2), hole]) (by kernel_rfl) ?_
    refine Zr (Z2 (Zt ?_))
    exact Zm (v := slv 0 0 2 2) rfl rfl rfl (by simp [Zbe, rwR, rwB, mxR, mxW, mxL, Zi, Zan, Zcx, slv, Zib, Zeg]) ⟨rfl, rfl, rfl, by first | omega | exact Nat.le_refl _ | exact Nat.zero_le _ | (dsimp only; omega), by first | omega | exact Nat.le_refl _ | exact Nat.zero_le _ | (dsimp only; omega)⟩
  · refine Zgz (H' := [(exB 4 ([Iv 2, Iv 1, Iv 0, slv 1 0 1 1, dead, dead, dead, dead] ++ List.replicate (k * 4) dead)), rwR Zi (Zx 1), Y12, rwR Zi (Zx 2)]) (by show [exB 4 ([Iv 2, Iv 1, Iv 0, slv 1 0 1 1] ++ List.replicate ((k + 1) * 4) dead), rwR Zi (Zx 1), (mxL 4 ([Iv 1, Iv 1, Iv 0, slv 3 0 2 2])), rwR Zi (Zx 2)] = _; rw [Z5t]; rfl) ?_
    refine Zaf 1 (H' := [(exB 4 ([Iv 2, Iv 1, Iv 0, slv 1 0 1 1, dead, dead, dead, dead] ++ List.replicate (k * 4) dead)), rwR Zi (Zx 1), Y12, rwR Zi (Zx 2), hole]) rfl ?_
    refine Zf (Zg (Zb (.slice none 0 0) (Za (Zc (Zf (Zg (Zd (slv 0 0 1 (k + 2)) (Zd (Iv 0) ?_))))))))
    refine Zcz (p := slv 0 0 1 (k + 2)) (vl := some (Iv 0)) (vh := none) (v := slv 0 0 1 (k + 2)) rfl rfl rfl rfl rfl (Ze2 (sz := 4) (l := 0) rfl rfl rfl (by omega) (by omega) (by omega) rfl (by omega) (by omega) (by omega)) ?_
    refine Za (Zc (Zf (Zg (Zd (slv 2 0 1 1) (Zaw (p := slv 2 0 1 1) (v := Iv 1) (Zb (Iv 1) (Za (Zc (Zf (Zf (Zg (Zd (Iv 1) ?_))))))))))))
    refine Zl (vx := Iv 1) (vy := Iv 0) rfl rfl (.bool false) rfl rfl (Zef (by omega)) ?_
    refine Za (Zc (Zu rfl (Zz (Zc (Zf (Zg (Zd (slv 0 0 1 (k + 2)) (Zaw (p := slv 0 0 1 (k + 2)) (v := Iv 1) (Zb (Iv 1) (Za (Zc (Zf (Zf (Zg (Zd (Iv 0) (Zd (Iv 1) ?_))))))))))))))))
    refine Zl (vx := Iv 0) (vy := Iv 1) rfl rfl (.bool false) rfl rfl (Zef (by omega)) ?_
    refine Za (Zc (Zu rfl (Zz (Zc (Zf (Zf (Zg (Zd (Iv 1) (Zd (Iv 1) ?_)))))))))
    refine Zl (vx := Iv 1) (vy := Iv 1) rfl rfl (Iv 2) rfl rfl (Zak (by omega) (by omega) (by omega)) ?_
    refine Zd (slv 0 0 1 (k + 2)) ?_
    refine Z3m (p := slv 0 0 1 (k + 2)) (v := Iv ((k : Nat) + 2)) rfl rfl rfl (by kernel_rfl) ?_
    refine Zl (vx := Iv 2) (vy := Iv ((k : Nat) + 2)) rfl rfl (.bool false) rfl rfl (Zfr (by omega)) ?_
    refine Za (Zc (Zu rfl (Zz (Zc (Zf (Zg (Zd (slv 0 0 1 (k + 2)) (Zd (Iv 1) (Zd (Iv 1) ?_)))))))))
    refine Zl (vx := Iv 1) (vy := Iv 1) rfl rfl (Iv 2) rfl rfl (Zak (by omega) (by omega) (by omega)) ?_
    refine Zcz (p := slv 0 0 1 (k + 2)) (vl := none) (vh := some (Iv 2)) (v := slv 0 0 2 (k + 2)) rfl rfl rfl rfl rfl (Zjp (h := 2) rfl rfl (by omega) (by omega) rfl) ?_
    refine Zb (slv 0 0 2 (k + 2)) (Za (Zc (Zf (Zf (Zg (Zd (slv 2 0 1 1) (Zd (slv 0 0 2 (k + 2)) (Zd (Iv 0) (Zd (Iv 1) ?_)))))))))
    refine Zl (vx := Iv 0) (vy := Iv 1) rfl rfl (Iv 1) rfl rfl (Zak (by omega) (by omega) (by omega)) ?_
    refine Zcz (p := slv 0 0 2 (k + 2)) (vl := some (Iv 1)) (vh := none) (v := slv 0 4 1 (k + 1)) rfl rfl rfl rfl rfl (Ze2 (sz := 4) (l := 1) rfl rfl rfl (by omega) (by omega) (by omega) rfl (by omega) (by omega) (by omega)) ?_
    refine Z41 Zus (p := slv 2 0 1 1) (q := slv 0 4 1 (k + 1)) (v := .bool false) rfl rfl rfl rfl (by kernel_rfl) ?_
    refine Zfb (vx := .bool false) rfl rfl (.bool true) rfl Zcq ?_
    refine Za (Zc (Zy rfl (Zf ?_)))
    refine Zgh (by kernel_rfl) ?_
    refine Zd (slv 0 0 2 (k + 2)) (Zd (Iv 0) (Zd (Iv 1) ?_))
    refine Zl (vx := Iv 0) (vy := Iv 1) rfl rfl (Iv 1) rfl rfl (Zak (by omega) (by omega) (by omega)) ?_
    refine Zcz (p := slv 0 0 2 (k + 2)) (vl := some (Iv 1)) (vh := none) (v := slv 0 4 1 (k + 1)) rfl rfl rfl rfl rfl (Ze2 (sz := 4) (l := 1) rfl rfl rfl (by omega) (by omega) (by omega) rfl (by omega) (by omega) (by omega)) ?_
    refine Zd (slv 0 0 2 (k + 2)) (Zd (Iv 0) ?_)
    refine Zcz (p := slv 0 0 2 (k + 2)) (vl := some (Iv 0)) (vh := none) (v := slv 0 0 2 (k + 2)) rfl rfl rfl rfl rfl (Ze2 (sz := 4) (l := 0) rfl rfl rfl (by omega) (by omega) (by omega) rfl (by omega) (by omega) (by omega)) ?_
    refine Zox (p := slv 0 4 1 (k + 1)) (q := slv 0 0 2 (k + 2)) (v := Iv 1) (b := 0) (blk := (exB 4 ([Iv 2, Iv 1, Iv 0, slv 1 0 1 1, Iv 2, Iv 1, Iv 0, slv 1 0 1 1] ++ List.replicate (k * 4) dead))) (H' := [(exB 4 ([Iv 2, Iv 1, Iv 0, slv 1 0 1 1, Iv 2, Iv 1, Iv 0, slv 1 0 1 1] ++ List.replicate (k * 4) dead)), rwR Zi (Zx 1), Y12, rwR Zi (Zx 2), hole]) rfl rfl rfl rfl (by kernel_rfl) (by kernel_rfl) ?_
    refine Zdm (Zc4 [[], [], [], [1, 2], [0, 1, 2, 3], [], [], [5, 6], [0, 1, 2, 3, 4, 5, 6, 7]] (by kernel_rfl) (by kernel_rfl)) ?_
    refine Zc (Zf (Zg (Zd (slv 0 0 2 (k + 2)) (Zd (Iv 0) ?_))))
    refine Zcz (p := slv 0 0 2 (k + 2)) (vl := some (Iv 0)) (vh := none) (v := slv 0 0 2 (k + 2)) rfl rfl rfl rfl rfl (Ze2 (sz := 4) (l := 0) rfl rfl rfl (by omega) (by omega) (by omega) rfl (by omega) (by omega) (by omega)) ?_
    refine Zd (slv 2 0 1 1) ?_
    refine Zox (p := slv 0 0 2 (k + 2)) (q := slv 2 0 1 1) (v := Iv 1) (b := 0) (blk := (exB 4 ([Iv 1, Iv 1, Iv 0, slv 3 0 2 2, Iv 2, Iv 1, Iv 0, slv 1 0 1 1] ++ List.replicate (k * 4) dead))) (H' := [(exB 4 ([Iv 1, Iv 1, Iv 0, slv 3 0 2 2, Iv 2, Iv 1, Iv 0, slv 1 0 1 1] ++ List.replicate (k * 4) dead)), rwR Zi (Zx 1), Y12, rwR Zi (Zx 2), hole]) rfl rfl rfl rfl (by kernel_rfl) (by kernel_rfl) ?_
    refine Za (Zc (Zf (Zg (Zd (slv 0 0 2 (k + 2)) (Zb (slv 0 0 2 (k + 2)) (Za (Zc ?_)))))))
    refine Zca (Za7.unexact (b := 0) (i := 6) (n := 2) (cc := k + 2) (sz := 4) (X := [Iv 1, Iv 1, Iv 0, slv 3 0 2 2, Iv 2, Iv 1, Iv 0, slv 1 0 1 1]) (D := List.replicate (k * 4) dead) (l := []) rfl rfl (by simp; omega) rfl (Zj (.inr (by show List.all (_ ++ _) _ = true; rw [List.all_append, Bool.and_eq_true]; exact ⟨rfl, List.all_eq_true.2 fun v hv => by rw [List.eq_of_mem_replicate hv]; rfl⟩)) (Zj (.inl rfl) (Zj (.inr rfl) (Zj (.inl rfl) (Zj (.inl rfl) Zds))))) trivial) ?_
    refine Zgz (H' := [(mxW 4 ([Iv 1, Iv 1, Iv 0, slv 3 0 2 2, Iv 2, Iv 1, Iv 0, slv 1 0 1 1])), rwR Zi (Zx 1), Y12, rwR Zi (Zx 2), hole]) (by kernel_rfl) ?_
    refine Zr (Z2 (Zt ?_))
    exact Zm (v := slv 0 0 2 2) rfl rfl rfl (by simp [Zbe, rwR, rwB, mxR, mxW, mxL, Zi, Zan, Zcx, slv, Zib, Zeg]) ⟨rfl, rfl, rfl, by first | omega | exact Nat.le_refl _ | exact Nat.zero_le _ | (dsimp only; omega), by first | omega | exact Nat.le_refl _ | exact Nat.zero_le _ | (dsimp only; omega)⟩
end Go.Flat
