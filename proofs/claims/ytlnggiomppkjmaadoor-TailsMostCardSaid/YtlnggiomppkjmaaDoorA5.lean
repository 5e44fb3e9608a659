/- Walks. -/
import Derived.Test.YtlnggiomppkjmaaDoorA4
set_option linter.unusedVariables false
set_option linter.unusedSimpArgs false
set_option maxRecDepth 20000
namespace Go.Flat
open Go.Proofs
variable {G : Glob}
theorem Zuu : IsOver Tryd.prog 49 4 := ⟨⟨22, 4, 26, by kernel_rfl, fun w => Zb1 (P := Tryd.prog) (t := 26) rfl w, fun args w => run_callFunc_extern (fn := Tryd.f49) rfl (by kernel_rfl) (by kernel_rfl) (by kernel_rfl) (by kernel_rfl) args w⟩⟩
theorem Z1l (a : TailT) (n c : Nat) (hn : a.items.length = n) (hc : n ≤ c) (hb : n ≤ 1048576) (b : TailT) (n' c' : Nat) (hn' : b.items.length = n') (hc' : n' ≤ c') (hb' : n' ≤ 1048576) : Z6 Tryd.prog G 36 [mxV ([Iv a.node, Iv a.log, Iv a.commit, slv 0 0 n c]), pt 1 0] [rwR Zj a.items, mxB 4 ([Iv b.node, Iv b.log, Iv b.commit, slv 2 0 n' c']), rwR Zj b.items] (.bool (decide (a.node = b.node))) [rwR Zj a.items, mxB 4 ([Iv b.node, Iv b.log, Iv b.commit, slv 2 0 n' c']), rwR Zj b.items] := by
  refine Zbh (fn := Tryd.f36) (nt := 9) rfl rfl rfl rfl ?_
  refine Zag 1 (H' := [rwR Zj a.items, mxB 4 ([Iv b.node, Iv b.log, Iv b.commit, slv 2 0 n' c']), rwR Zj b.items, hole]) rfl ?_
  refine Zf (Zg (Zb4 (v := mxV ([Iv a.node, Iv a.log, Iv a.commit, slv 0 0 n c])) (b := mxB 4 ([Iv a.node, Iv a.log, Iv a.commit, slv 0 0 n c])) (nid := 3) (H' := [rwR Zj a.items, mxB 4 ([Iv b.node, Iv b.log, Iv b.commit, slv 2 0 n' c']), rwR Zj b.items, mxB 4 ([Iv a.node, Iv a.log, Iv a.commit, slv 0 0 n c])]) (Zb (.bool false) (Za (Zc (Zf (Zg (Zh (b := 3) (o := 0) (n := 0) (o' := 0) (Zo (p := pt 3 0) (v := Iv a.node) (Zh (b := 1) (o := 0) (n := 0) (o' := 0) (Zo (p := pt 1 0) (v := Iv b.node) ?_)))))))))))
  by_cases h1 : a.node = b.node
  refine Zm (vx := Iv a.node) (vy := Iv b.node) rfl rfl (.bool true) rfl rfl (Zc3 (by omega)) ?_
  refine Zb (.bool true) (Za (Zc (Zr (Zu ?_))))
  rw [show decide (a.node = b.node) = true from by first | exact decide_eq_true (by omega) | exact decide_eq_false (by omega) | rfl]
  exact Zn (v := .bool true) rfl rfl rfl (by kernel_rfl) rfl
  refine Zm (vx := Iv a.node) (vy := Iv b.node) rfl rfl (.bool false) rfl rfl (Zdo (by omega)) ?_
  refine Zb (.bool false) (Za (Zc (Zr (Zu ?_))))
  rw [show decide (a.node = b.node) = false from by first | exact decide_eq_true (by omega) | exact decide_eq_false (by omega) | rfl]
  exact Zn (v := .bool false) rfl rfl rfl (by kernel_rfl) rfl
theorem Z1m (a : TailT) (n c : Nat) (hn : a.items.length = n) (hc : n ≤ c) (hb : n ≤ 1048576) (b : TailT) (n' c' : Nat) (hn' : b.items.length = n') (hc' : n' ≤ c') (hb' : n' ≤ 1048576) : Z6 Tryd.prog G 38 [mxV ([Iv a.node, Iv a.log, Iv a.commit, slv 0 0 n c]), pt 1 0] [rwR Zj a.items, mxB 4 ([Iv b.node, Iv b.log, Iv b.commit, slv 2 0 n' c']), rwR Zj b.items] (.bool (decide (b.node < a.node))) [rwR Zj a.items, mxB 4 ([Iv b.node, Iv b.log, Iv b.commit, slv 2 0 n' c']), rwR Zj b.items] := by
  refine Zbh (fn := Tryd.f38) (nt := 9) rfl rfl rfl rfl ?_
  refine Zag 1 (H' := [rwR Zj a.items, mxB 4 ([Iv b.node, Iv b.log, Iv b.commit, slv 2 0 n' c']), rwR Zj b.items, hole]) rfl ?_
  refine Zf (Zg (Zb4 (v := mxV ([Iv a.node, Iv a.log, Iv a.commit, slv 0 0 n c])) (b := mxB 4 ([Iv a.node, Iv a.log, Iv a.commit, slv 0 0 n c])) (nid := 3) (H' := [rwR Zj a.items, mxB 4 ([Iv b.node, Iv b.log, Iv b.commit, slv 2 0 n' c']), rwR Zj b.items, mxB 4 ([Iv a.node, Iv a.log, Iv a.commit, slv 0 0 n c])]) (Zb (.bool false) (Za (Zc (Zf (Zg (Zh (b := 3) (o := 0) (n := 0) (o' := 0) (Zo (p := pt 3 0) (v := Iv a.node) (Zh (b := 1) (o := 0) (n := 0) (o' := 0) (Zo (p := pt 1 0) (v := Iv b.node) ?_)))))))))))
  by_cases h1 : b.node < a.node
  refine Zm (vx := Iv a.node) (vy := Iv b.node) rfl rfl (.bool true) rfl rfl (Zfa (by omega)) ?_
  refine Zb (.bool true) (Za (Zc (Zr (Zu ?_))))
  rw [show decide (b.node < a.node) = true from by first | exact decide_eq_true (by omega) | exact decide_eq_false (by omega) | rfl]
  exact Zn (v := .bool true) rfl rfl rfl (by kernel_rfl) rfl
  refine Zm (vx := Iv a.node) (vy := Iv b.node) rfl rfl (.bool false) rfl rfl (Ze9 (by omega)) ?_
  refine Zb (.bool false) (Za (Zc (Zr (Zu ?_))))
  rw [show decide (b.node < a.node) = false from by first | exact decide_eq_true (by omega) | exact decide_eq_false (by omega) | rfl]
  exact Zn (v := .bool false) rfl rfl rfl (by kernel_rfl) rfl
theorem Z2g  : Z6 Tryd.prog G 37 [slv 0 0 1 1, .func (.func 36) #[] #[pt 2 0]] [mxR 4 ([Iv 2, Iv 1, Iv 0, slv 1 0 1 1]), rwR Zj (Zx 1), mxB 4 ([Iv 1, Iv 1, Iv 0, slv 3 0 2 2]), rwR Zj (Zx 2)] (Iv (-1)) [mxR 4 ([Iv 2, Iv 1, Iv 0, slv 1 0 1 1]), rwR Zj (Zx 1), mxB 4 ([Iv 1, Iv 1, Iv 0, slv 3 0 2 2]), rwR Zj (Zx 2)] := by
  refine Zbh (fn := Tryd.f37) (nt := 19) rfl rfl rfl rfl ?_
  refine Zf (Zg (Zb (Iv 0) (Za (Zc (Zf (Zf (Zg (Zd (slv 0 0 1 1) (Zav (p := slv 0 0 1 1) (v := Iv 1) (Zd (Iv 0) (Za (Zc (Z8 ?_)))))))))))))
  refine Zn1 2 ?_
  refine Zl2 (Zf (Zg ?_))
  refine Zm (vx := Iv 0) (vy := Iv 1) rfl rfl (.bool true) rfl rfl (Zcz (by omega)) ?_
  refine Za (Zc (Zf (Zz rfl (Zy (Zc (Zf (Z8 (Zf (Zg (Zd (Iv 0) (Zb (Iv 0) (Za (Zc (Zf (Zg (Zd (.func (.func 36) #[] #[pt 2 0]) (Zd (slv 0 0 1 1) (Zd (Iv 0) ?_))))))))))))))))))
  refine Zbb (b := 0) (o := 0) (j := 0) (m := 1) (c := 1) (sz := 4) (i := 0) (k := .i64) rfl rfl rfl rfl rfl (by omega) (by omega) (by omega) ?_
  refine Zo (p := pt 0 0) (v := mxV ([Iv 2, Iv 1, Iv 0, slv 1 0 1 1])) ?_
  refine Z5 (e := [some (1, 0), some (2, 0), some (3, 0)]) (nid := 0) (Z1l (G := G) (⟨2, 1, 0, (Zx 1)⟩ : TailT) 1 1 (Zc2 1) (by omega) (by omega) (⟨1, 1, 0, (Zx 2)⟩ : TailT) 2 2 (Zc2 2) (by omega) (by omega)) (vals := [mxV ([Iv 2, Iv 1, Iv 0, slv 1 0 1 1]), pt 2 0]) (v := .bool false) (H' := [mxR 4 ([Iv 2, Iv 1, Iv 0, slv 1 0 1 1]), rwR Zj (Zx 1), mxB 4 ([Iv 1, Iv 1, Iv 0, slv 3 0 2 2]), rwR Zj (Zx 2)]) rfl rfl rfl rfl rfl rfl rfl ⟨⟨(Zbp (by kernel_rfl) ⟨⟨rfl, rfl⟩, ⟨rfl, rfl⟩, ⟨rfl, rfl⟩, ⟨rfl, rfl, rfl, by first | omega | exact Nat.le_refl _, by first | omega | exact Nat.le_refl _⟩, trivial⟩), ⟨rfl, rfl⟩, trivial⟩, ⟨(Zbq rfl), (Zad rfl rfl rfl (by kernel_rfl)), (Zbq rfl), trivial⟩, rfl, rfl, rfl⟩ (by kernel_rfl) (by kernel_rfl) ?_
  refine Za (Zc (Zt rfl (Zy (Z7 (Zc (Zg ?_))))))
  refine Zm (vx := Iv 0) (vy := Iv 1) rfl rfl (Iv 1) rfl rfl (Zal (by omega) (by omega) (by omega)) ?_
  refine Zd (Iv 1) (Za (Zwq (Zl2 (Zf (Zg ?_)))))
  refine Zm (vx := Iv 1) (vy := Iv 1) rfl rfl (.bool false) rfl rfl (Zcv (by omega)) ?_
  refine Za (Zc (Zf (Zt rfl (Zbm (Zaw (Zay (Za0 rfl (Zc (Zf (Zg (Zb (Iv (-1)) (Za (Zc (Zr (Zu ?_)))))))))))))))
  exact Zn (v := Iv (-1)) rfl rfl rfl (by kernel_rfl) rfl
theorem Z2h  : Z6 Tryd.prog G 37 [slv 0 0 1 1, .func (.func 38) #[] #[pt 2 0]] [mxR 4 ([Iv 2, Iv 1, Iv 0, slv 1 0 1 1]), rwR Zj (Zx 1), mxB 4 ([Iv 1, Iv 1, Iv 0, slv 3 0 2 2]), rwR Zj (Zx 2)] (Iv 0) [mxR 4 ([Iv 2, Iv 1, Iv 0, slv 1 0 1 1]), rwR Zj (Zx 1), mxB 4 ([Iv 1, Iv 1, Iv 0, slv 3 0 2 2]), rwR Zj (Zx 2)] := by
  refine Zbh (fn := Tryd.f37) (nt := 19) rfl rfl rfl rfl ?_
  refine Zf (Zg (Zb (Iv 0) (Za (Zc (Zf (Zf (Zg (Zd (slv 0 0 1 1) (Zav (p := slv 0 0 1 1) (v := Iv 1) (Zd (Iv 0) (Za (Zc (Z8 ?_)))))))))))))
  refine Zn1 2 ?_
  refine Zl2 (Zf (Zg ?_))
  refine Zm (vx := Iv 0) (vy := Iv 1) rfl rfl (.bool true) rfl rfl (Zcz (by omega)) ?_
  refine Za (Zc (Zf (Zz rfl (Zy (Zc (Zf (Z8 (Zf (Zg (Zd (Iv 0) (Zb (Iv 0) (Za (Zc (Zf (Zg (Zd (.func (.func 38) #[] #[pt 2 0]) (Zd (slv 0 0 1 1) (Zd (Iv 0) ?_))))))))))))))))))
  refine Zbb (b := 0) (o := 0) (j := 0) (m := 1) (c := 1) (sz := 4) (i := 0) (k := .i64) rfl rfl rfl rfl rfl (by omega) (by omega) (by omega) ?_
  refine Zo (p := pt 0 0) (v := mxV ([Iv 2, Iv 1, Iv 0, slv 1 0 1 1])) ?_
  refine Z5 (e := [some (1, 0), some (2, 0), some (3, 0)]) (nid := 0) (Z1m (G := G) (⟨2, 1, 0, (Zx 1)⟩ : TailT) 1 1 (Zc2 1) (by omega) (by omega) (⟨1, 1, 0, (Zx 2)⟩ : TailT) 2 2 (Zc2 2) (by omega) (by omega)) (vals := [mxV ([Iv 2, Iv 1, Iv 0, slv 1 0 1 1]), pt 2 0]) (v := .bool true) (H' := [mxR 4 ([Iv 2, Iv 1, Iv 0, slv 1 0 1 1]), rwR Zj (Zx 1), mxB 4 ([Iv 1, Iv 1, Iv 0, slv 3 0 2 2]), rwR Zj (Zx 2)]) rfl rfl rfl rfl rfl rfl rfl ⟨⟨(Zbp (by kernel_rfl) ⟨⟨rfl, rfl⟩, ⟨rfl, rfl⟩, ⟨rfl, rfl⟩, ⟨rfl, rfl, rfl, by first | omega | exact Nat.le_refl _, by first | omega | exact Nat.le_refl _⟩, trivial⟩), ⟨rfl, rfl⟩, trivial⟩, ⟨(Zbq rfl), (Zad rfl rfl rfl (by kernel_rfl)), (Zbq rfl), trivial⟩, rfl, rfl, rfl⟩ (by kernel_rfl) (by kernel_rfl) ?_
  refine Za (Zc (Zz rfl (Zf (Zg (Zd (Iv 0) (Zb (Iv 0) (Za (Zc (Zr (Zao (Z3 (Zcr (Zao (Z3 (Zu ?_)))))))))))))))
  exact Zn (v := Iv 0) rfl rfl rfl (by kernel_rfl) rfl
theorem Z15  : Z6 Tryd.prog G 34 [slv 0 0 1 1, .func (.func 36) #[] #[pt 2 0]] [mxR 4 ([Iv 2, Iv 1, Iv 0, slv 1 0 1 1]), rwR Zj (Zx 1), mxB 4 ([Iv 1, Iv 1, Iv 0, slv 3 0 2 2]), rwR Zj (Zx 2)] (slv 0 0 1 1) [mxR 4 ([Iv 2, Iv 1, Iv 0, slv 1 0 1 1]), rwR Zj (Zx 1), mxB 4 ([Iv 1, Iv 1, Iv 0, slv 3 0 2 2]), rwR Zj (Zx 2)] := by
  refine Zbh (fn := Tryd.f34) (nt := 42) rfl rfl rfl rfl ?_
  refine Zf (Zg (Zb (.slice none 0 0) (Za (Zc (Zf (Zg (Zd (slv 0 0 1 1) (Zd (.func (.func 36) #[] #[pt 2 0]) ?_))))))))
  refine Z5 (e := [some (0, 0), some (1, 0), some (2, 0), some (3, 0)]) (nid := 0) (Z2g (G := G)) (vals := [slv 0 0 1 1, .func (.func 36) #[] #[pt 2 0]]) (v := Iv (-1)) (H' := [mxR 4 ([Iv 2, Iv 1, Iv 0, slv 1 0 1 1]), rwR Zj (Zx 1), mxB 4 ([Iv 1, Iv 1, Iv 0, slv 3 0 2 2]), rwR Zj (Zx 2)]) rfl rfl rfl rfl rfl rfl rfl ⟨⟨⟨rfl, rfl, rfl, by first | omega | exact Nat.le_refl _, by first | omega | exact Nat.le_refl _⟩, ⟨by kernel_rfl, by kernel_rfl⟩, trivial⟩, ⟨(Zcg rfl rfl (Nat.le_refl _) (by kernel_rfl)), (Zbq rfl), (Zad rfl rfl rfl (by kernel_rfl)), (Zbq rfl), trivial⟩, rfl, rfl, rfl⟩ (by kernel_rfl) (by kernel_rfl) ?_
  refine Zb (Iv (-1)) (Za (Zc (Zf (Zf (Zg (Zd (Iv (-1)) ?_))))))
  refine Zm (vx := Iv (-1)) (vy := Iv (-1)) rfl rfl (.bool true) rfl rfl (Zc3 (by omega)) ?_
  refine Za (Zc (Zz rfl (Zf (Zg (Zd (slv 0 0 1 1) (Zb (slv 0 0 1 1) (Za (Zc (Zr (Z3 (Zu ?_)))))))))))
  exact Zn (v := slv 0 0 1 1) rfl rfl rfl (by simp [Zbf, rwR, mxR, mxB, Zj, Zan, Zcw, slv, Zic, Zef]) ⟨rfl, rfl, rfl, by first | omega | exact Nat.le_refl _ | exact Nat.zero_le _ | (dsimp only; omega), by first | omega | exact Nat.le_refl _ | exact Nat.zero_le _ | (dsimp only; omega)⟩
abbrev Y11  : Blk := mxR 4 ([Iv 2, Iv 1, Iv 0, slv 1 0 1 1])
theorem Zw8  : Z6 Tryd.prog G 35 [slv 0 0 1 1, .func (.func 30) #[] #[]] [mxR 4 ([Iv 2, Iv 1, Iv 0, slv 1 0 1 1]), rwR Zj (Zx 1)] (slv 2 0 1 1) [mxR 4 ([Iv 2, Iv 1, Iv 0, slv 1 0 1 1]), rwR Zj (Zx 1), mxW 4 ([Iv 2, Iv 1, Iv 0, slv 3 0 1 1]), rwB Zj (Zx 1)] := by
  refine Zbh (fn := Tryd.f35) (nt := 22) rfl rfl rfl rfl ?_
  refine Zag 6 (H' := [Y11, rwR Zj (Zx 1), hole, hole, hole, hole, hole, hole]) rfl ?_
  refine Zf (Zg (Zb (.slice none 0 0) (Za (Zc (Zf (Zg (Zb (.slice none 0 0) (Za (Zc (Zf (Zf (Zg (Zd (slv 0 0 1 1) (Zav (p := slv 0 0 1 1) (v := Iv 1) (Zd (Iv 0) (Za (Zc (Z8 ?_))))))))))))))))))
  refine Zn1 2 ?_
  refine Zl2 (Zf (Zg ?_))
  refine Zm (vx := Iv 0) (vy := Iv 1) rfl rfl (.bool true) rfl rfl (Zcz (by omega)) ?_
  refine Za (Zc (Zf (Zz rfl (Zy (Zc (Zf (Z8 (Zf (Zg ?_)))))))))
  refine Zbb (b := 0) (o := 0) (j := 0) (m := 1) (c := 1) (sz := 4) (i := 0) (k := .i64) rfl rfl rfl rfl rfl (by omega) (by omega) (by omega) ?_
  refine Zo (p := pt 0 0) (v := mxV ([Iv 2, Iv 1, Iv 0, slv 1 0 1 1])) (Za9 (b := mxB 4 ([Iv 0, Iv 0, Iv 0, .slice none 0 0])) (nid := 2) (H' := [Y11, rwR Zj (Zx 1), mxB 4 ([Iv 0, Iv 0, Iv 0, .slice none 0 0]), hole, hole, hole, hole, hole]) (Zab (p := pt 2 0) (v := mxV ([Iv 2, Iv 1, Iv 0, slv 1 0 1 1])) (b := 2) (blk := mxB 4 ([Iv 2, Iv 1, Iv 0, slv 1 0 1 1])) (H' := [Y11, rwR Zj (Zx 1), mxB 4 ([Iv 2, Iv 1, Iv 0, slv 1 0 1 1]), hole, hole, hole, hole, hole]) (Za (Zc (Zg (Zd (.slice none 0 0) (Zd (.func (.func 30) #[] #[]) (Zo (p := pt 2 0) (v := mxV ([Iv 2, Iv 1, Iv 0, slv 1 0 1 1])) ?_))))))))
  refine Z5 (e := [some (1, 0)]) (nid := 3) (Zra (G := G) (⟨2, 1, 0, (Zx 1)⟩ : TailT) 1 1 (Zc2 1) (by omega) (by omega)) (vals := [mxV ([Iv 2, Iv 1, Iv 0, slv 1 0 1 1])]) (v := mxV ([Iv 2, Iv 1, Iv 0, slv 3 0 1 1])) (H' := [Y11, rwR Zj (Zx 1), mxB 4 ([Iv 2, Iv 1, Iv 0, slv 1 0 1 1]), rwB Zj (Zx 1), hole, hole, hole, hole]) rfl rfl rfl rfl rfl rfl rfl ⟨⟨(Zbp (by kernel_rfl) ⟨⟨rfl, rfl⟩, ⟨rfl, rfl⟩, ⟨rfl, rfl⟩, ⟨rfl, rfl, rfl, by first | omega | exact Nat.le_refl _, by first | omega | exact Nat.le_refl _⟩, trivial⟩), trivial⟩, ⟨(Zbq rfl), trivial⟩, rfl, rfl, rfl⟩ (by kernel_rfl) (by kernel_rfl) ?_
  refine Zen (vs := [(0, mxV ([Iv 2, Iv 1, Iv 0, slv 3 0 1 1]))]) (v := slv 4 0 1 1) (blk := mxW 4 ([Iv 2, Iv 1, Iv 0, slv 3 0 1 1])) (nid := 4) (H' := [Y11, rwR Zj (Zx 1), mxB 4 ([Iv 2, Iv 1, Iv 0, slv 1 0 1 1]), rwB Zj (Zx 1), mxW 4 ([Iv 2, Iv 1, Iv 0, slv 3 0 1 1]), hole, hole, hole]) rfl rfl rfl (by kernel_rfl) (by kernel_rfl) ?_
  refine Z4z (p := .slice none 0 0) (q := slv 4 0 1 1) (v := slv 5 0 1 1) (blk := mxW 4 ([Iv 2, Iv 1, Iv 0, slv 3 0 1 1])) (nid := 5) (H' := [Y11, rwR Zj (Zx 1), mxB 4 ([Iv 2, Iv 1, Iv 0, slv 1 0 1 1]), rwB Zj (Zx 1), mxW 4 ([Iv 2, Iv 1, Iv 0, slv 3 0 1 1]), mxW 4 ([Iv 2, Iv 1, Iv 0, slv 3 0 1 1]), hole, hole]) rfl rfl rfl (.inl ⟨_, rfl⟩) rfl rfl (by kernel_rfl) (by kernel_rfl) ?_
  refine Zb (slv 5 0 1 1) (Za (Z7 (Zc (Zg ?_))))
  refine Zm (vx := Iv 0) (vy := Iv 1) rfl rfl (Iv 1) rfl rfl (Zal (by omega) (by omega) (by omega)) ?_
  refine Zd (Iv 1) (Za (Zwq (Zl2 (Zf (Zg ?_)))))
  refine Zm (vx := Iv 1) (vy := Iv 1) rfl rfl (.bool false) rfl rfl (Zcv (by omega)) ?_
  refine Za (Zc (Zf (Zt rfl (Zbm (Zaw (Zay (Za0 rfl (Zc (Zf (Zg (Zd (slv 5 0 1 1) (Zb (slv 5 0 1 1) (Za (Zc ?_))))))))))))))
  refine Zb8 (Ztz [some (0, 0), some (1, 0), some (5, 0), some (3, 0)] (H' := [Y11, rwR Zj (Zx 1), mxW 4 ([Iv 2, Iv 1, Iv 0, slv 3 0 1 1]), rwB Zj (Zx 1)]) (l := [dead, dead, dead, dead, slv 2 0 1 1]) ⟨(Zcg rfl rfl (Nat.le_refl _) (by kernel_rfl)), (Zcg rfl rfl (Nat.le_refl _) (by kernel_rfl)), (Zad rfl rfl rfl (by kernel_rfl)), (Zad rfl rfl rfl (by kernel_rfl)), trivial⟩ (by kernel_rfl) (by kernel_rfl) rfl rfl ⟨.inl rfl, ⟨.inl rfl, ⟨.inl rfl, ⟨.inl rfl, ⟨.inr ⟨rfl, rfl, rfl, Nat.le_refl _, Nat.le_refl _⟩, trivial⟩⟩⟩⟩⟩) ?_
  refine Zr (Zu ?_)
  exact Zn (v := slv 2 0 1 1) rfl rfl rfl (by simp [Zbf, rwR, rwB, mxR, mxW, Zj, Zan, Zcw, slv, Zic, Zef]) ⟨rfl, rfl, rfl, by first | omega | exact Nat.le_refl _ | exact Nat.zero_le _ | (dsimp only; omega), by first | omega | exact Nat.le_refl _ | exact Nat.zero_le _ | (dsimp only; omega)⟩
abbrev Y12  : Blk := (mxL 4 ([Iv 1, Iv 1, Iv 0, slv 3 0 2 2]))
theorem Z2f : Z6 Tryd.prog G 39 [slv 0 0 1 1, Iv 0, slv 2 0 1 1] [(mxW 4 ([Iv 2, Iv 1, Iv 0, slv 1 0 1 1])), rwR Zj (Zx 1), (mxL 4 ([Iv 1, Iv 1, Iv 0, slv 3 0 2 2])), rwR Zj (Zx 2)] (slv 0 0 2 2) [(mxW 4 ([Iv 1, Iv 1, Iv 0, slv 3 0 2 2, Iv 2, Iv 1, Iv 0, slv 1 0 1 1])), rwR Zj (Zx 1), (mxL 4 ([Iv 1, Iv 1, Iv 0, slv 3 0 2 2])), rwR Zj (Zx 2)] := by
  refine Zbh (fn := Tryd.f39) (nt := 95) rfl rfl rfl rfl ?_
  refine Z1s (b := 0) (i := 0) (n := 1) (cc := 1) (sz := 4) (l := [dead, Iv 0, slv 2 0 1 1]) rfl rfl rfl (Zk (.inr rfl) (Zk (.inl rfl) (Zk (.inr rfl) (Zk (.inl rfl) Zd2)))) ⟨.inl rfl, .inr ⟨rfl, rfl⟩, .inr ⟨rfl, rfl⟩, trivial⟩ (fun k => ?_)
  rcases k with _ | k
  · refine Zg2 (H' := [(exB 4 ([Iv 2, Iv 1, Iv 0, slv 1 0 1 1])), rwR Zj (Zx 1), Y12, rwR Zj (Zx 2)]) (by kernel_rfl) ?_
    refine Zag 1 (H' := [(exB 4 ([Iv 2, Iv 1, Iv 0, slv 1 0 1 1])), rwR Zj (Zx 1), Y12, rwR Zj (Zx 2), hole]) rfl ?_
    refine Zf (Zg (Zb (.slice none 0 0) (Za (Zc (Zf (Zg (Zd (slv 0 0 1 1) (Zd (Iv 0) ?_))))))))
    refine Zc0 (p := slv 0 0 1 1) (vl := some (Iv 0)) (vh := none) (v := slv 0 0 1 1) rfl rfl rfl rfl rfl (Ze0 (sz := 4) (l := 0) rfl rfl rfl (by omega) (by omega) (by omega) rfl (by omega) (by omega) (by omega)) ?_
    refine Za (Zc (Zf (Zg (Zd (slv 2 0 1 1) (Zav (p := slv 2 0 1 1) (v := Iv 1) (Zb (Iv 1) (Za (Zc (Zf (Zf (Zg (Zd (Iv 1) ?_))))))))))))
    refine Zm (vx := Iv 1) (vy := Iv 0) rfl rfl (.bool false) rfl rfl (Zdo (by omega)) ?_
    refine Za (Zc (Zt rfl (Zy (Zc (Zf (Zg (Zd (slv 0 0 1 1) (Zav (p := slv 0 0 1 1) (v := Iv 1) (Zb (Iv 1) (Za (Zc (Zf (Zf (Zg (Zd (Iv 0) (Zd (Iv 1) ?_))))))))))))))))
    refine Zm (vx := Iv 0) (vy := Iv 1) rfl rfl (.bool false) rfl rfl (Zdo (by omega)) ?_
    refine Za (Zc (Zt rfl (Zy (Zc (Zf (Zf (Zg (Zd (Iv 1) (Zd (Iv 1) ?_)))))))))
    refine Zm (vx := Iv 1) (vy := Iv 1) rfl rfl (Iv 2) rfl rfl (Zal (by omega) (by omega) (by omega)) ?_
    refine Zd (slv 0 0 1 1) ?_
    refine Z3r (p := slv 0 0 1 1) (v := Iv 1) rfl rfl rfl (by kernel_rfl) ?_
    refine Zm (vx := Iv 2) (vy := Iv 1) rfl rfl (.bool true) rfl rfl (Zfa (by omega)) ?_
    refine Za (Zc (Zz rfl (Zf (Zg (Zd (slv 0 0 1 1) (Zd (Iv 0) ?_))))))
    refine Zc0 (p := slv 0 0 1 1) (vl := none) (vh := some (Iv 0)) (v := slv 0 0 0 1) rfl rfl rfl rfl rfl (Zjp (h := 0) rfl rfl (by omega) (by omega) rfl) ?_
    refine Zd (Iv 1) (Zd (Iv 1) ?_)
    refine Zm (vx := Iv 1) (vy := Iv 1) rfl rfl (Iv 2) rfl rfl (Zal (by omega) (by omega) (by omega)) ?_
    refine Zd (Iv 0) ?_
    refine Zm (vx := Iv 2) (vy := Iv 0) rfl rfl (Iv 2) rfl rfl (Zhk (by omega) (by omega) (by omega)) ?_
    refine Z40 (p := slv 0 0 0 1) (q := Iv 2) (v := slv 4 0 2 2) (blk := (mxW 4 ([dead, dead, dead, dead, dead, dead, dead, dead]))) (nid := 4) (H' := [(exB 4 ([Iv 2, Iv 1, Iv 0, slv 1 0 1 1])), rwR Zj (Zx 1), Y12, rwR Zj (Zx 2), (mxW 4 ([dead, dead, dead, dead, dead, dead, dead, dead]))]) rfl rfl rfl rfl rfl (by kernel_rfl) (by kernel_rfl) ?_
    refine Zb (slv 4 0 2 2) (Za (Zc (Zf (Zg (Zd (slv 4 0 2 2) (Zd (Iv 0) ?_))))))
    refine Zc0 (p := slv 4 0 2 2) (vl := some (Iv 0)) (vh := none) (v := slv 4 0 2 2) rfl rfl rfl rfl rfl (Ze0 (sz := 4) (l := 0) rfl rfl rfl (by omega) (by omega) (by omega) rfl (by omega) (by omega) (by omega)) ?_
    refine Zd (slv 2 0 1 1) ?_
    refine Zow (p := slv 4 0 2 2) (q := slv 2 0 1 1) (v := Iv 1) (b := 4) (blk := (mxW 4 ([Iv 1, Iv 1, Iv 0, slv 3 0 2 2, dead, dead, dead, dead]))) (H' := [(exB 4 ([Iv 2, Iv 1, Iv 0, slv 1 0 1 1])), rwR Zj (Zx 1), Y12, rwR Zj (Zx 2), (mxW 4 ([Iv 1, Iv 1, Iv 0, slv 3 0 2 2, dead, dead, dead, dead]))]) rfl rfl rfl rfl (by kernel_rfl) (by kernel_rfl) ?_
    refine Za (Zc (Zf ?_))
    refine Zfw (by kernel_rfl) ?_
    refine Zd (slv 4 0 2 2) (Zd (Iv 0) (Zd (Iv 1) ?_))
    refine Zm (vx := Iv 0) (vy := Iv 1) rfl rfl (Iv 1) rfl rfl (Zal (by omega) (by omega) (by omega)) ?_
    refine Zc0 (p := slv 4 0 2 2) (vl := some (Iv 1)) (vh := none) (v := slv 4 4 1 1) rfl rfl rfl rfl rfl (Ze0 (sz := 4) (l := 1) rfl rfl rfl (by omega) (by omega) (by omega) rfl (by omega) (by omega) (by omega)) ?_
    refine Zd (slv 0 0 1 1) (Zd (Iv 0) ?_)
    refine Zc0 (p := slv 0 0 1 1) (vl := some (Iv 0)) (vh := none) (v := slv 0 0 1 1) rfl rfl rfl rfl rfl (Ze0 (sz := 4) (l := 0) rfl rfl rfl (by omega) (by omega) (by omega) rfl (by omega) (by omega) (by omega)) ?_
    refine Zow (p := slv 4 4 1 1) (q := slv 0 0 1 1) (v := Iv 1) (b := 4) (blk := (mxW 4 ([Iv 1, Iv 1, Iv 0, slv 3 0 2 2, Iv 2, Iv 1, Iv 0, slv 1 0 1 1]))) (H' := [(exB 4 ([Iv 2, Iv 1, Iv 0, slv 1 0 1 1])), rwR Zj (Zx 1), Y12, rwR Zj (Zx 2), (mxW 4 ([Iv 1, Iv 1, Iv 0, slv 3 0 2 2, Iv 2, Iv 1, Iv 0, slv 1 0 1 1]))]) rfl rfl rfl rfl (by kernel_rfl) (by kernel_rfl) ?_
    refine Zcm (Zb2 [[], [], [], [1, 2], [0, 1, 2, 3], [], [], [5, 6], [0, 1, 2, 3, 4, 5, 6, 7]] (by kernel_rfl) (by kernel_rfl)) ?_
    refine Zc (Zf (Zg (Zd (slv 4 0 2 2) (Zb (slv 4 0 2 2) (Za (Zc ?_))))))
    refine Zb8 (Zba.moveTo (b := 0) (j := 4) (i := 6) (n := 2) (cc := 2) (l := []) (by decide) rfl ⟨rfl, rfl⟩ rfl ⟨rfl, rfl⟩ rfl (Zk (.inr rfl) (Zk (.inl rfl) (Zk (.inr rfl) (Zk (.inl rfl) (Zk (.inr rfl) Zd2))))) trivial) ?_
    refine Zg2 (H' := [(mxW 4 ([Iv 1, Iv 1, Iv 0, slv 3 0 2 2, Iv 2, Iv 1, Iv 0, slv 1 0 1 1])), rwR Zj (Zx 1), Y12, rwR Zj (Zx 2), hole]) (by kernel_rfl) ?_
    refine Zr (Z3 (Zu ?_))
    exact Zn (v := slv 0 0 2 2) rfl rfl rfl (by simp [Zbf, rwR, rwB, mxR, mxW, mxL, Zj, Zan, Zcw, slv, Zic, Zef]) ⟨rfl, rfl, rfl, by first | omega | exact Nat.le_refl _ | exact Nat.zero_le _ | (dsimp only; omega), by first | omega | exact Nat.le_refl _ | exact Nat.zero_le _ | (dsimp only; omega)⟩
  · refine Zg2 (H' := [(exB 4 ([Iv 2, Iv 1, Iv 0, slv 1 0 1 1, dead, dead, dead, dead] ++ List.replicate (k * 4) dead)), rwR Zj (Zx 1), Y12, rwR Zj (Zx 2)]) (by show [exB 4 ([Iv 2, Iv 1, Iv 0, slv 1 0 1 1] ++ List.replicate ((k + 1) * 4) dead), rwR Zj (Zx 1), (mxL 4 ([Iv 1, Iv 1, Iv 0, slv 3 0 2 2])), rwR Zj (Zx 2)] = _; rw [Z5v]; rfl) ?_
    refine Zag 1 (H' := [(exB 4 ([Iv 2, Iv 1, Iv 0, slv 1 0 1 1, dead, dead, dead, dead] ++ List.replicate (k * 4) dead)), rwR Zj (Zx 1), Y12, rwR Zj (Zx 2), hole]) rfl ?_
    refine Zf (Zg (Zb (.slice none 0 0) (Za (Zc (Zf (Zg (Zd (slv 0 0 1 (k + 2)) (Zd (Iv 0) ?_))))))))
    refine Zc0 (p := slv 0 0 1 (k + 2)) (vl := some (Iv 0)) (vh := none) (v := slv 0 0 1 (k + 2)) rfl rfl rfl rfl rfl (Ze0 (sz := 4) (l := 0) rfl rfl rfl (by omega) (by omega) (by omega) rfl (by omega) (by omega) (by omega)) ?_
    refine Za (Zc (Zf (Zg (Zd (slv 2 0 1 1) (Zav (p := slv 2 0 1 1) (v := Iv 1) (Zb (Iv 1) (Za (Zc (Zf (Zf (Zg (Zd (Iv 1) ?_))))))))))))
    refine Zm (vx := Iv 1) (vy := Iv 0) rfl rfl (.bool false) rfl rfl (Zdo (by omega)) ?_
    refine Za (Zc (Zt rfl (Zy (Zc (Zf (Zg (Zd (slv 0 0 1 (k + 2)) (Zav (p := slv 0 0 1 (k + 2)) (v := Iv 1) (Zb (Iv 1) (Za (Zc (Zf (Zf (Zg (Zd (Iv 0) (Zd (Iv 1) ?_))))))))))))))))
    refine Zm (vx := Iv 0) (vy := Iv 1) rfl rfl (.bool false) rfl rfl (Zdo (by omega)) ?_
    refine Za (Zc (Zt rfl (Zy (Zc (Zf (Zf (Zg (Zd (Iv 1) (Zd (Iv 1) ?_)))))))))
    refine Zm (vx := Iv 1) (vy := Iv 1) rfl rfl (Iv 2) rfl rfl (Zal (by omega) (by omega) (by omega)) ?_
    refine Zd (slv 0 0 1 (k + 2)) ?_
    refine Z3r (p := slv 0 0 1 (k + 2)) (v := Iv ((k : Nat) + 2)) rfl rfl rfl (by kernel_rfl) ?_
    refine Zm (vx := Iv 2) (vy := Iv ((k : Nat) + 2)) rfl rfl (.bool false) rfl rfl (Ze9 (by omega)) ?_
    refine Za (Zc (Zt rfl (Zy (Zc (Zf (Zg (Zd (slv 0 0 1 (k + 2)) (Zd (Iv 1) (Zd (Iv 1) ?_)))))))))
    refine Zm (vx := Iv 1) (vy := Iv 1) rfl rfl (Iv 2) rfl rfl (Zal (by omega) (by omega) (by omega)) ?_
    refine Zc0 (p := slv 0 0 1 (k + 2)) (vl := none) (vh := some (Iv 2)) (v := slv 0 0 2 (k + 2)) rfl rfl rfl rfl rfl (Zjp (h := 2) rfl rfl (by omega) (by omega) rfl) ?_
    refine Zb (slv 0 0 2 (k + 2)) (Za (Zc (Zf (Zf (Zg (Zd (slv 2 0 1 1) (Zd (slv 0 0 2 (k + 2)) (Zd (Iv 0) (Zd (Iv 1) ?_)))))))))
    refine Zm (vx := Iv 0) (vy := Iv 1) rfl rfl (Iv 1) rfl rfl (Zal (by omega) (by omega) (by omega)) ?_
    refine Zc0 (p := slv 0 0 2 (k + 2)) (vl := some (Iv 1)) (vh := none) (v := slv 0 4 1 (k + 1)) rfl rfl rfl rfl rfl (Ze0 (sz := 4) (l := 1) rfl rfl rfl (by omega) (by omega) (by omega) rfl (by omega) (by omega) (by omega)) ?_
    refine Z43 Zuu (p := slv 2 0 1 1) (q := slv 0 4 1 (k + 1)) (v := .bool false) rfl rfl rfl rfl (by kernel_rfl) ?_
    refine Zgj (vx := .bool false) rfl rfl (.bool true) rfl Zdd ?_
    refine Za (Zc (Zz rfl (Zf ?_)))
    refine Zfw (by kernel_rfl) ?_
    refine Zd (slv 0 0 2 (k + 2)) (Zd (Iv 0) (Zd (Iv 1) ?_))
    refine Zm (vx := Iv 0) (vy := Iv 1) rfl rfl (Iv 1) rfl rfl (Zal (by omega) (by omega) (by omega)) ?_
    refine Zc0 (p := slv 0 0 2 (k + 2)) (vl := some (Iv 1)) (vh := none) (v := slv 0 4 1 (k + 1)) rfl rfl rfl rfl rfl (Ze0 (sz := 4) (l := 1) rfl rfl rfl (by omega) (by omega) (by omega) rfl (by omega) (by omega) (by omega)) ?_
    refine Zd (slv 0 0 2 (k + 2)) (Zd (Iv 0) ?_)
    refine Zc0 (p := slv 0 0 2 (k + 2)) (vl := some (Iv 0)) (vh := none) (v := slv 0 0 2 (k + 2)) rfl rfl rfl rfl rfl (Ze0 (sz := 4) (l := 0) rfl rfl rfl (by omega) (by omega) (by omega) rfl (by omega) (by omega) (by omega)) ?_
    refine Zow (p := slv 0 4 1 (k + 1)) (q := slv 0 0 2 (k + 2)) (v := Iv 1) (b := 0) (blk := (exB 4 ([Iv 2, Iv 1, Iv 0, slv 1 0 1 1, Iv 2, Iv 1, Iv 0, slv 1 0 1 1] ++ List.replicate (k * 4) dead))) (H' := [(exB 4 ([Iv 2, Iv 1, Iv 0, slv 1 0 1 1, Iv 2, Iv 1, Iv 0, slv 1 0 1 1] ++ List.replicate (k * 4) dead)), rwR Zj (Zx 1), Y12, rwR Zj (Zx 2), hole]) rfl rfl rfl rfl (by kernel_rfl) (by kernel_rfl) ?_
    refine Zcm (Zb2 [[], [], [], [1, 2], [0, 1, 2, 3], [], [], [5, 6], [0, 1, 2, 3, 4, 5, 6, 7]] (by kernel_rfl) (by kernel_rfl)) ?_
    refine Zc (Zf (Zg (Zd (slv 0 0 2 (k + 2)) (Zd (Iv 0) ?_))))
    refine Zc0 (p := slv 0 0 2 (k + 2)) (vl := some (Iv 0)) (vh := none) (v := slv 0 0 2 (k + 2)) rfl rfl rfl rfl rfl (Ze0 (sz := 4) (l := 0) rfl rfl rfl (by omega) (by omega) (by omega) rfl (by omega) (by omega) (by omega)) ?_
    refine Zd (slv 2 0 1 1) ?_
    refine Zow (p := slv 0 0 2 (k + 2)) (q := slv 2 0 1 1) (v := Iv 1) (b := 0) (blk := (exB 4 ([Iv 1, Iv 1, Iv 0, slv 3 0 2 2, Iv 2, Iv 1, Iv 0, slv 1 0 1 1] ++ List.replicate (k * 4) dead))) (H' := [(exB 4 ([Iv 1, Iv 1, Iv 0, slv 3 0 2 2, Iv 2, Iv 1, Iv 0, slv 1 0 1 1] ++ List.replicate (k * 4) dead)), rwR Zj (Zx 1), Y12, rwR Zj (Zx 2), hole]) rfl rfl rfl rfl (by kernel_rfl) (by kernel_rfl) ?_
    refine Za (Zc (Zf (Zg (Zd (slv 0 0 2 (k + 2)) (Zb (slv 0 0 2 (k + 2)) (Za (Zc ?_)))))))
    refine Zb8 (Zba.unexact (b := 0) (i := 6) (n := 2) (cc := k + 2) (sz := 4) (X := [Iv 1, Iv 1, Iv 0, slv 3 0 2 2, Iv 2, Iv 1, Iv 0, slv 1 0 1 1]) (D := List.replicate (k * 4) dead) (l := []) rfl rfl (by simp; omega) rfl (Zk (.inr (by show List.all (_ ++ _) _ = true; rw [List.all_append, Bool.and_eq_true]; exact ⟨rfl, List.all_eq_true.2 fun v hv => by rw [List.eq_of_mem_replicate hv]; rfl⟩)) (Zk (.inl rfl) (Zk (.inr rfl) (Zk (.inl rfl) (Zk (.inl rfl) Zd2))))) trivial) ?_
    refine Zg2 (H' := [(mxW 4 ([Iv 1, Iv 1, Iv 0, slv 3 0 2 2, Iv 2, Iv 1, Iv 0, slv 1 0 1 1])), rwR Zj (Zx 1), Y12, rwR Zj (Zx 2), hole]) (by kernel_rfl) ?_
    refine Zr (Z3 (Zu ?_))
    exact Zn (v := slv 0 0 2 2) rfl rfl rfl (by simp [Zbf, rwR, rwB, mxR, mxW, mxL, Zj, Zan, Zcw, slv, Zic, Zef]) ⟨rfl, rfl, rfl, by first | omega | exact Nat.le_refl _ | exact Nat.zero_le _ | (dsimp only; omega), by first | omega | exact Nat.le_refl _ | exact Nat.zero_le _ | (dsimp only; omega)⟩
end Go.Flat
