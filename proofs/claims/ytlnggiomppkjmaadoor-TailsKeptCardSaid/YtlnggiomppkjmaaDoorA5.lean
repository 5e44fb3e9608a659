/- Walks. -/
import Derived.Test.YtlnggiomppkjmaaDoorA4
set_option linter.unusedVariables false
set_option linter.unusedSimpArgs false
set_option maxRecDepth 20000
namespace Go.Flat
open Go.Proofs
variable {G : Glob}
theorem Zud : IsOver Tryd.prog 49 4 := ⟨⟨22, 4, 26, by kernel_rfl, fun w => Zbz (P := Tryd.prog) (t := 26) rfl w, fun args w => run_callFunc_extern (fn := Tryd.f49) rfl (by kernel_rfl) (by kernel_rfl) (by kernel_rfl) (by kernel_rfl) args w⟩⟩
theorem Z0v (a : TailT) (n c : Nat) (hn : a.items.length = n) (hc : n ≤ c) (hb : n ≤ 1048576) (b : TailT) (n' c' : Nat) (hn' : b.items.length = n') (hc' : n' ≤ c') (hb' : n' ≤ 1048576) : Z4 Tryd.prog G 36 [mxV ([Iv a.node, Iv a.log, Iv a.commit, slv 0 0 n c]), pt 1 0] [rwR Zh a.items, mxB 4 ([Iv b.node, Iv b.log, Iv b.commit, slv 2 0 n' c']), rwR Zh b.items] (.bool (decide (a.node = b.node))) [rwR Zh a.items, mxB 4 ([Iv b.node, Iv b.log, Iv b.commit, slv 2 0 n' c']), rwR Zh b.items] := by
  refine Zbd (fn := Tryd.f36) (nt := 9) rfl rfl rfl rfl ?_
  refine Zae 1 (H' := [rwR Zh a.items, mxB 4 ([Iv b.node, Iv b.log, Iv b.commit, slv 2 0 n' c']), rwR Zh b.items, hole]) rfl ?_
  refine Ze (Zg (Zbs (v := mxV ([Iv a.node, Iv a.log, Iv a.commit, slv 0 0 n c])) (b := mxB 4 ([Iv a.node, Iv a.log, Iv a.commit, slv 0 0 n c])) (nid := 3) (H' := [rwR Zh a.items, mxB 4 ([Iv b.node, Iv b.log, Iv b.commit, slv 2 0 n' c']), rwR Zh b.items, mxB 4 ([Iv a.node, Iv a.log, Iv a.commit, slv 0 0 n c])]) (Zc (.bool false) (Za (Zb (Ze (Zg (Zi (b := 3) (o := 0) (n := 0) (o' := 0) (Zm (p := pt 3 0) (v := Iv a.node) (Zi (b := 1) (o := 0) (n := 0) (o' := 0) (Zm (p := pt 1 0) (v := Iv b.node) ?_)))))))))))
  by_cases h1 : a.node = b.node
  refine Zl (vx := Iv a.node) (vy := Iv b.node) rfl rfl (.bool true) rfl rfl (Zc2 (by omega)) ?_
  refine Zc (.bool true) (Za (Zb (Zr (Zs ?_))))
  rw [show decide (a.node = b.node) = true from by first | exact decide_eq_true (by omega) | exact decide_eq_false (by omega) | rfl]
  exact Zk (v := .bool true) rfl rfl rfl (by kernel_rfl) rfl
  refine Zl (vx := Iv a.node) (vy := Iv b.node) rfl rfl (.bool false) rfl rfl (Zed (by omega)) ?_
  refine Zc (.bool false) (Za (Zb (Zr (Zs ?_))))
  rw [show decide (a.node = b.node) = false from by first | exact decide_eq_true (by omega) | exact decide_eq_false (by omega) | rfl]
  exact Zk (v := .bool false) rfl rfl rfl (by kernel_rfl) rfl
theorem Z0w (a : TailT) (n c : Nat) (hn : a.items.length = n) (hc : n ≤ c) (hb : n ≤ 1048576) (b : TailT) (n' c' : Nat) (hn' : b.items.length = n') (hc' : n' ≤ c') (hb' : n' ≤ 1048576) : Z4 Tryd.prog G 38 [mxV ([Iv a.node, Iv a.log, Iv a.commit, slv 0 0 n c]), pt 1 0] [rwR Zh a.items, mxB 4 ([Iv b.node, Iv b.log, Iv b.commit, slv 2 0 n' c']), rwR Zh b.items] (.bool (decide (b.node < a.node))) [rwR Zh a.items, mxB 4 ([Iv b.node, Iv b.log, Iv b.commit, slv 2 0 n' c']), rwR Zh b.items] := by
  refine Zbd (fn := Tryd.f38) (nt := 9) rfl rfl rfl rfl ?_
  refine Zae 1 (H' := [rwR Zh a.items, mxB 4 ([Iv b.node, Iv b.log, Iv b.commit, slv 2 0 n' c']), rwR Zh b.items, hole]) rfl ?_
  refine Ze (Zg (Zbs (v := mxV ([Iv a.node, Iv a.log, Iv a.commit, slv 0 0 n c])) (b := mxB 4 ([Iv a.node, Iv a.log, Iv a.commit, slv 0 0 n c])) (nid := 3) (H' := [rwR Zh a.items, mxB 4 ([Iv b.node, Iv b.log, Iv b.commit, slv 2 0 n' c']), rwR Zh b.items, mxB 4 ([Iv a.node, Iv a.log, Iv a.commit, slv 0 0 n c])]) (Zc (.bool false) (Za (Zb (Ze (Zg (Zi (b := 3) (o := 0) (n := 0) (o' := 0) (Zm (p := pt 3 0) (v := Iv a.node) (Zi (b := 1) (o := 0) (n := 0) (o' := 0) (Zm (p := pt 1 0) (v := Iv b.node) ?_)))))))))))
  by_cases h1 : b.node < a.node
  refine Zl (vx := Iv a.node) (vy := Iv b.node) rfl rfl (.bool true) rfl rfl (Zgu (by omega)) ?_
  refine Zc (.bool true) (Za (Zb (Zr (Zs ?_))))
  rw [show decide (b.node < a.node) = true from by first | exact decide_eq_true (by omega) | exact decide_eq_false (by omega) | rfl]
  exact Zk (v := .bool true) rfl rfl rfl (by kernel_rfl) rfl
  refine Zl (vx := Iv a.node) (vy := Iv b.node) rfl rfl (.bool false) rfl rfl (Zgt (by omega)) ?_
  refine Zc (.bool false) (Za (Zb (Zr (Zs ?_))))
  rw [show decide (b.node < a.node) = false from by first | exact decide_eq_true (by omega) | exact decide_eq_false (by omega) | rfl]
  exact Zk (v := .bool false) rfl rfl rfl (by kernel_rfl) rfl
theorem Z1p  : Z4 Tryd.prog G 37 [slv 0 0 1 1, .func (.func 36) #[] #[pt 2 0]] [mxR 4 ([Iv 2, Iv 1, Iv 0, slv 1 0 1 1]), rwR Zh (Zu 1), mxB 4 ([Iv 1, Iv 1, Iv 0, slv 3 0 2 2]), rwR Zh (Zu 2)] (Iv (-1)) [mxR 4 ([Iv 2, Iv 1, Iv 0, slv 1 0 1 1]), rwR Zh (Zu 1), mxB 4 ([Iv 1, Iv 1, Iv 0, slv 3 0 2 2]), rwR Zh (Zu 2)] := by
  refine Zbd (fn := Tryd.f37) (nt := 19) rfl rfl rfl rfl ?_
  refine Ze (Zg (Zc (Iv 0) (Za (Zb (Ze (Ze (Zg (Zd (slv 0 0 1 1) (Zba (p := slv 0 0 1 1) (v := Iv 1) (Zd (Iv 0) (Za (Zb (Z7 ?_)))))))))))))
  refine Zni 2 ?_
  refine Zlq (Ze (Zg ?_))
  refine Zl (vx := Iv 0) (vy := Iv 1) rfl rfl (.bool true) rfl rfl (Zc0 (by omega)) ?_
  refine Za (Zb (Ze (Zy rfl (Zx (Zb (Ze (Z7 (Ze (Zg (Zd (Iv 0) (Zc (Iv 0) (Za (Zb (Ze (Zg (Zd (.func (.func 36) #[] #[pt 2 0]) (Zd (slv 0 0 1 1) (Zd (Iv 0) ?_))))))))))))))))))
  refine Zb1 (b := 0) (o := 0) (j := 0) (m := 1) (c := 1) (sz := 4) (i := 0) (k := .i64) rfl rfl rfl rfl rfl (by omega) (by omega) (by omega) ?_
  refine Zm (p := pt 0 0) (v := mxV ([Iv 2, Iv 1, Iv 0, slv 1 0 1 1])) ?_
  refine Z0 (e := [some (1, 0), some (2, 0), some (3, 0)]) (nid := 0) (Z0v (G := G) (⟨2, 1, 0, (Zu 1)⟩ : TailT) 1 1 (Zcx 1) (by omega) (by omega) (⟨1, 1, 0, (Zu 2)⟩ : TailT) 2 2 (Zcx 2) (by omega) (by omega)) (vals := [mxV ([Iv 2, Iv 1, Iv 0, slv 1 0 1 1]), pt 2 0]) (v := .bool false) (H' := [mxR 4 ([Iv 2, Iv 1, Iv 0, slv 1 0 1 1]), rwR Zh (Zu 1), mxB 4 ([Iv 1, Iv 1, Iv 0, slv 3 0 2 2]), rwR Zh (Zu 2)]) rfl rfl rfl rfl rfl rfl rfl ⟨⟨(Zbh (by kernel_rfl) ⟨⟨rfl, rfl⟩, ⟨rfl, rfl⟩, ⟨rfl, rfl⟩, ⟨rfl, rfl, rfl, by first | omega | exact Nat.le_refl _, by first | omega | exact Nat.le_refl _⟩, trivial⟩), ⟨rfl, rfl⟩, trivial⟩, ⟨(Zaz rfl), (Zad rfl rfl rfl (by kernel_rfl)), (Zaz rfl), trivial⟩, rfl, rfl, rfl⟩ (by kernel_rfl) (by kernel_rfl) ?_
  refine Za (Zb (Zt rfl (Zx (Z8 (Zb (Zg ?_))))))
  refine Zl (vx := Iv 0) (vy := Iv 1) rfl rfl (Iv 1) rfl rfl (Zan (by omega) (by omega) (by omega)) ?_
  refine Zd (Iv 1) (Za (Zv7 (Zlq (Ze (Zg ?_)))))
  refine Zl (vx := Iv 1) (vy := Iv 1) rfl rfl (.bool false) rfl rfl (Zct (by omega)) ?_
  refine Za (Zb (Ze (Zt rfl (Zbp (Zau (Za2 (Za1 rfl (Zb (Ze (Zg (Zc (Iv (-1)) (Za (Zb (Zr (Zs ?_)))))))))))))))
  exact Zk (v := Iv (-1)) rfl rfl rfl (by kernel_rfl) rfl
theorem Z1q  : Z4 Tryd.prog G 37 [slv 0 0 1 1, .func (.func 38) #[] #[pt 2 0]] [mxR 4 ([Iv 2, Iv 1, Iv 0, slv 1 0 1 1]), rwR Zh (Zu 1), mxB 4 ([Iv 1, Iv 1, Iv 0, slv 3 0 2 2]), rwR Zh (Zu 2)] (Iv 0) [mxR 4 ([Iv 2, Iv 1, Iv 0, slv 1 0 1 1]), rwR Zh (Zu 1), mxB 4 ([Iv 1, Iv 1, Iv 0, slv 3 0 2 2]), rwR Zh (Zu 2)] := by
  refine Zbd (fn := Tryd.f37) (nt := 19) rfl rfl rfl rfl ?_
  refine Ze (Zg (Zc (Iv 0) (Za (Zb (Ze (Ze (Zg (Zd (slv 0 0 1 1) (Zba (p := slv 0 0 1 1) (v := Iv 1) (Zd (Iv 0) (Za (Zb (Z7 ?_)))))))))))))
  refine Zni 2 ?_
  refine Zlq (Ze (Zg ?_))
  refine Zl (vx := Iv 0) (vy := Iv 1) rfl rfl (.bool true) rfl rfl (Zc0 (by omega)) ?_
  refine Za (Zb (Ze (Zy rfl (Zx (Zb (Ze (Z7 (Ze (Zg (Zd (Iv 0) (Zc (Iv 0) (Za (Zb (Ze (Zg (Zd (.func (.func 38) #[] #[pt 2 0]) (Zd (slv 0 0 1 1) (Zd (Iv 0) ?_))))))))))))))))))
  refine Zb1 (b := 0) (o := 0) (j := 0) (m := 1) (c := 1) (sz := 4) (i := 0) (k := .i64) rfl rfl rfl rfl rfl (by omega) (by omega) (by omega) ?_
  refine Zm (p := pt 0 0) (v := mxV ([Iv 2, Iv 1, Iv 0, slv 1 0 1 1])) ?_
  refine Z0 (e := [some (1, 0), some (2, 0), some (3, 0)]) (nid := 0) (Z0w (G := G) (⟨2, 1, 0, (Zu 1)⟩ : TailT) 1 1 (Zcx 1) (by omega) (by omega) (⟨1, 1, 0, (Zu 2)⟩ : TailT) 2 2 (Zcx 2) (by omega) (by omega)) (vals := [mxV ([Iv 2, Iv 1, Iv 0, slv 1 0 1 1]), pt 2 0]) (v := .bool true) (H' := [mxR 4 ([Iv 2, Iv 1, Iv 0, slv 1 0 1 1]), rwR Zh (Zu 1), mxB 4 ([Iv 1, Iv 1, Iv 0, slv 3 0 2 2]), rwR Zh (Zu 2)]) rfl rfl rfl rfl rfl rfl rfl ⟨⟨(Zbh (by kernel_rfl) ⟨⟨rfl, rfl⟩, ⟨rfl, rfl⟩, ⟨rfl, rfl⟩, ⟨rfl, rfl, rfl, by first | omega | exact Nat.le_refl _, by first | omega | exact Nat.le_refl _⟩, trivial⟩), ⟨rfl, rfl⟩, trivial⟩, ⟨(Zaz rfl), (Zad rfl rfl rfl (by kernel_rfl)), (Zaz rfl), trivial⟩, rfl, rfl, rfl⟩ (by kernel_rfl) (by kernel_rfl) ?_
  refine Za (Zb (Zy rfl (Ze (Zg (Zd (Iv 0) (Zc (Iv 0) (Za (Zb (Zr (Zbg (Z3 (Zdu (Zbg (Z3 (Zs ?_)))))))))))))))
  exact Zk (v := Iv 0) rfl rfl rfl (by kernel_rfl) rfl
theorem Z1e  : Z4 Tryd.prog G 34 [slv 0 0 1 1, .func (.func 36) #[] #[pt 2 0]] [mxR 4 ([Iv 2, Iv 1, Iv 0, slv 1 0 1 1]), rwR Zh (Zu 1), mxB 4 ([Iv 1, Iv 1, Iv 0, slv 3 0 2 2]), rwR Zh (Zu 2)] (slv 0 0 1 1) [mxR 4 ([Iv 2, Iv 1, Iv 0, slv 1 0 1 1]), rwR Zh (Zu 1), mxB 4 ([Iv 1, Iv 1, Iv 0, slv 3 0 2 2]), rwR Zh (Zu 2)] := by
  refine Zbd (fn := Tryd.f34) (nt := 42) rfl rfl rfl rfl ?_
  refine Ze (Zg (Zc (.slice none 0 0) (Za (Zb (Ze (Zg (Zd (slv 0 0 1 1) (Zd (.func (.func 36) #[] #[pt 2 0]) ?_))))))))
  refine Z0 (e := [some (0, 0), some (1, 0), some (2, 0), some (3, 0)]) (nid := 0) (Z1p (G := G)) (vals := [slv 0 0 1 1, .func (.func 36) #[] #[pt 2 0]]) (v := Iv (-1)) (H' := [mxR 4 ([Iv 2, Iv 1, Iv 0, slv 1 0 1 1]), rwR Zh (Zu 1), mxB 4 ([Iv 1, Iv 1, Iv 0, slv 3 0 2 2]), rwR Zh (Zu 2)]) rfl rfl rfl rfl rfl rfl rfl ⟨⟨⟨rfl, rfl, rfl, by first | omega | exact Nat.le_refl _, by first | omega | exact Nat.le_refl _⟩, ⟨by kernel_rfl, by kernel_rfl⟩, trivial⟩, ⟨(Zcn rfl rfl (Nat.le_refl _) (by kernel_rfl)), (Zaz rfl), (Zad rfl rfl rfl (by kernel_rfl)), (Zaz rfl), trivial⟩, rfl, rfl, rfl⟩ (by kernel_rfl) (by kernel_rfl) ?_
  refine Zc (Iv (-1)) (Za (Zb (Ze (Ze (Zg (Zd (Iv (-1)) ?_))))))
  refine Zl (vx := Iv (-1)) (vy := Iv (-1)) rfl rfl (.bool true) rfl rfl (Zc2 (by omega)) ?_
  refine Za (Zb (Zy rfl (Ze (Zg (Zd (slv 0 0 1 1) (Zc (slv 0 0 1 1) (Za (Zb (Zr (Z3 (Zs ?_)))))))))))
  exact Zk (v := slv 0 0 1 1) rfl rfl rfl (by simp [Za6, rwR, mxR, mxB, Zh, Zal, Zcp, slv, Zh0, Zee]) ⟨rfl, rfl, rfl, by first | omega | exact Nat.le_refl _ | exact Nat.zero_le _ | (dsimp only; omega), by first | omega | exact Nat.le_refl _ | exact Nat.zero_le _ | (dsimp only; omega)⟩
abbrev Y11  : Blk := mxR 4 ([Iv 2, Iv 1, Iv 0, slv 1 0 1 1])
theorem Zwo  : Z4 Tryd.prog G 35 [slv 0 0 1 1, .func (.func 30) #[] #[]] [mxR 4 ([Iv 2, Iv 1, Iv 0, slv 1 0 1 1]), rwR Zh (Zu 1)] (slv 2 0 1 1) [mxR 4 ([Iv 2, Iv 1, Iv 0, slv 1 0 1 1]), rwR Zh (Zu 1), mxW 4 ([Iv 2, Iv 1, Iv 0, slv 3 0 1 1]), rwB Zh (Zu 1)] := by
  refine Zbd (fn := Tryd.f35) (nt := 22) rfl rfl rfl rfl ?_
  refine Zae 6 (H' := [Y11, rwR Zh (Zu 1), hole, hole, hole, hole, hole, hole]) rfl ?_
  refine Ze (Zg (Zc (.slice none 0 0) (Za (Zb (Ze (Zg (Zc (.slice none 0 0) (Za (Zb (Ze (Ze (Zg (Zd (slv 0 0 1 1) (Zba (p := slv 0 0 1 1) (v := Iv 1) (Zd (Iv 0) (Za (Zb (Z7 ?_))))))))))))))))))
  refine Zni 2 ?_
  refine Zlq (Ze (Zg ?_))
  refine Zl (vx := Iv 0) (vy := Iv 1) rfl rfl (.bool true) rfl rfl (Zc0 (by omega)) ?_
  refine Za (Zb (Ze (Zy rfl (Zx (Zb (Ze (Z7 (Ze (Zg ?_)))))))))
  refine Zb1 (b := 0) (o := 0) (j := 0) (m := 1) (c := 1) (sz := 4) (i := 0) (k := .i64) rfl rfl rfl rfl rfl (by omega) (by omega) (by omega) ?_
  refine Zm (p := pt 0 0) (v := mxV ([Iv 2, Iv 1, Iv 0, slv 1 0 1 1])) (Zaw (b := mxB 4 ([Iv 0, Iv 0, Iv 0, .slice none 0 0])) (nid := 2) (H' := [Y11, rwR Zh (Zu 1), mxB 4 ([Iv 0, Iv 0, Iv 0, .slice none 0 0]), hole, hole, hole, hole, hole]) (Zaa (p := pt 2 0) (v := mxV ([Iv 2, Iv 1, Iv 0, slv 1 0 1 1])) (b := 2) (blk := mxB 4 ([Iv 2, Iv 1, Iv 0, slv 1 0 1 1])) (H' := [Y11, rwR Zh (Zu 1), mxB 4 ([Iv 2, Iv 1, Iv 0, slv 1 0 1 1]), hole, hole, hole, hole, hole]) (Za (Zb (Zg (Zd (.slice none 0 0) (Zd (.func (.func 30) #[] #[]) (Zm (p := pt 2 0) (v := mxV ([Iv 2, Iv 1, Iv 0, slv 1 0 1 1])) ?_))))))))
  refine Z0 (e := [some (1, 0)]) (nid := 3) (Zqy (G := G) (⟨2, 1, 0, (Zu 1)⟩ : TailT) 1 1 (Zcx 1) (by omega) (by omega)) (vals := [mxV ([Iv 2, Iv 1, Iv 0, slv 1 0 1 1])]) (v := mxV ([Iv 2, Iv 1, Iv 0, slv 3 0 1 1])) (H' := [Y11, rwR Zh (Zu 1), mxB 4 ([Iv 2, Iv 1, Iv 0, slv 1 0 1 1]), rwB Zh (Zu 1), hole, hole, hole, hole]) rfl rfl rfl rfl rfl rfl rfl ⟨⟨(Zbh (by kernel_rfl) ⟨⟨rfl, rfl⟩, ⟨rfl, rfl⟩, ⟨rfl, rfl⟩, ⟨rfl, rfl, rfl, by first | omega | exact Nat.le_refl _, by first | omega | exact Nat.le_refl _⟩, trivial⟩), trivial⟩, ⟨(Zaz rfl), trivial⟩, rfl, rfl, rfl⟩ (by kernel_rfl) (by kernel_rfl) ?_
  refine Zen (vs := [(0, mxV ([Iv 2, Iv 1, Iv 0, slv 3 0 1 1]))]) (v := slv 4 0 1 1) (blk := mxW 4 ([Iv 2, Iv 1, Iv 0, slv 3 0 1 1])) (nid := 4) (H' := [Y11, rwR Zh (Zu 1), mxB 4 ([Iv 2, Iv 1, Iv 0, slv 1 0 1 1]), rwB Zh (Zu 1), mxW 4 ([Iv 2, Iv 1, Iv 0, slv 3 0 1 1]), hole, hole, hole]) rfl rfl rfl (by kernel_rfl) (by kernel_rfl) ?_
  refine Z39 (p := .slice none 0 0) (q := slv 4 0 1 1) (v := slv 5 0 1 1) (blk := mxW 4 ([Iv 2, Iv 1, Iv 0, slv 3 0 1 1])) (nid := 5) (H' := [Y11, rwR Zh (Zu 1), mxB 4 ([Iv 2, Iv 1, Iv 0, slv 1 0 1 1]), rwB Zh (Zu 1), mxW 4 ([Iv 2, Iv 1, Iv 0, slv 3 0 1 1]), mxW 4 ([Iv 2, Iv 1, Iv 0, slv 3 0 1 1]), hole, hole]) rfl rfl rfl (.inl ⟨_, rfl⟩) rfl rfl (by kernel_rfl) (by kernel_rfl) ?_
  refine Zc (slv 5 0 1 1) (Za (Z8 (Zb (Zg ?_))))
  refine Zl (vx := Iv 0) (vy := Iv 1) rfl rfl (Iv 1) rfl rfl (Zan (by omega) (by omega) (by omega)) ?_
  refine Zd (Iv 1) (Za (Zv7 (Zlq (Ze (Zg ?_)))))
  refine Zl (vx := Iv 1) (vy := Iv 1) rfl rfl (.bool false) rfl rfl (Zct (by omega)) ?_
  refine Za (Zb (Ze (Zt rfl (Zbp (Zau (Za2 (Za1 rfl (Zb (Ze (Zg (Zd (slv 5 0 1 1) (Zc (slv 5 0 1 1) (Za (Zb ?_))))))))))))))
  refine Zb6 (Ztk [some (0, 0), some (1, 0), some (5, 0), some (3, 0)] (H' := [Y11, rwR Zh (Zu 1), mxW 4 ([Iv 2, Iv 1, Iv 0, slv 3 0 1 1]), rwB Zh (Zu 1)]) (l := [dead, dead, dead, dead, slv 2 0 1 1]) ⟨(Zcn rfl rfl (Nat.le_refl _) (by kernel_rfl)), (Zcn rfl rfl (Nat.le_refl _) (by kernel_rfl)), (Zad rfl rfl rfl (by kernel_rfl)), (Zad rfl rfl rfl (by kernel_rfl)), trivial⟩ (by kernel_rfl) (by kernel_rfl) rfl rfl ⟨.inl rfl, ⟨.inl rfl, ⟨.inl rfl, ⟨.inl rfl, ⟨.inr ⟨rfl, rfl, rfl, Nat.le_refl _, Nat.le_refl _⟩, trivial⟩⟩⟩⟩⟩) ?_
  refine Zr (Zs ?_)
  exact Zk (v := slv 2 0 1 1) rfl rfl rfl (by simp [Za6, rwR, rwB, mxR, mxW, Zh, Zal, Zcp, slv, Zh0, Zee]) ⟨rfl, rfl, rfl, by first | omega | exact Nat.le_refl _ | exact Nat.zero_le _ | (dsimp only; omega), by first | omega | exact Nat.le_refl _ | exact Nat.zero_le _ | (dsimp only; omega)⟩
abbrev Y12  : Blk := (mxL 4 ([Iv 1, Iv 1, Iv 0, slv 3 0 2 2]))
theorem Z1o : Z4 Tryd.prog G 39 [slv 0 0 1 1, Iv 0, slv 2 0 1 1] [(mxW 4 ([Iv 2, Iv 1, Iv 0, slv 1 0 1 1])), rwR Zh (Zu 1), (mxL 4 ([Iv 1, Iv 1, Iv 0, slv 3 0 2 2])), rwR Zh (Zu 2)] (slv 0 0 2 2) [(mxW 4 ([Iv 1, Iv 1, Iv 0, slv 3 0 2 2, Iv 2, Iv 1, Iv 0, slv 1 0 1 1])), rwR Zh (Zu 1), (mxL 4 ([Iv 1, Iv 1, Iv 0, slv 3 0 2 2])), rwR Zh (Zu 2)] := by
  refine Zbd (fn := Tryd.f39) (nt := 95) rfl rfl rfl rfl ?_
  refine Z01 (b := 0) (i := 0) (n := 1) (cc := 1) (sz := 4) (l := [dead, Iv 0, slv 2 0 1 1]) rfl rfl rfl (Zp (.inr rfl) (Zp (.inl rfl) (Zp (.inr rfl) (Zp (.inl rfl) Zfz)))) ⟨.inl rfl, .inr ⟨rfl, rfl⟩, .inr ⟨rfl, rfl⟩, trivial⟩ (fun k => ?_)
  rcases k with _ | k
  · refine Zia (H' := [(exB 4 ([Iv 2, Iv 1, Iv 0, slv 1 0 1 1])), rwR Zh (Zu 1), Y12, rwR Zh (Zu 2)]) (by kernel_rfl) ?_
    refine Zae 1 (H' := [(exB 4 ([Iv 2, Iv 1, Iv 0, slv 1 0 1 1])), rwR Zh (Zu 1), Y12, rwR Zh (Zu 2), hole]) rfl ?_
    refine Ze (Zg (Zc (.slice none 0 0) (Za (Zb (Ze (Zg (Zd (slv 0 0 1 1) (Zd (Iv 0) ?_))))))))
    refine Zcu (p := slv 0 0 1 1) (vl := some (Iv 0)) (vh := none) (v := slv 0 0 1 1) rfl rfl rfl rfl rfl (Zey (sz := 4) (l := 0) rfl rfl rfl (by omega) (by omega) (by omega) rfl (by omega) (by omega) (by omega)) ?_
    refine Za (Zb (Ze (Zg (Zd (slv 2 0 1 1) (Zba (p := slv 2 0 1 1) (v := Iv 1) (Zc (Iv 1) (Za (Zb (Ze (Ze (Zg (Zd (Iv 1) ?_))))))))))))
    refine Zl (vx := Iv 1) (vy := Iv 0) rfl rfl (.bool false) rfl rfl (Zed (by omega)) ?_
    refine Za (Zb (Zt rfl (Zx (Zb (Ze (Zg (Zd (slv 0 0 1 1) (Zba (p := slv 0 0 1 1) (v := Iv 1) (Zc (Iv 1) (Za (Zb (Ze (Ze (Zg (Zd (Iv 0) (Zd (Iv 1) ?_))))))))))))))))
    refine Zl (vx := Iv 0) (vy := Iv 1) rfl rfl (.bool false) rfl rfl (Zed (by omega)) ?_
    refine Za (Zb (Zt rfl (Zx (Zb (Ze (Ze (Zg (Zd (Iv 1) (Zd (Iv 1) ?_)))))))))
    refine Zl (vx := Iv 1) (vy := Iv 1) rfl rfl (Iv 2) rfl rfl (Zan (by omega) (by omega) (by omega)) ?_
    refine Zd (slv 0 0 1 1) ?_
    refine Z20 (p := slv 0 0 1 1) (v := Iv 1) rfl rfl rfl (by kernel_rfl) ?_
    refine Zl (vx := Iv 2) (vy := Iv 1) rfl rfl (.bool true) rfl rfl (Zgu (by omega)) ?_
    refine Za (Zb (Zy rfl (Ze (Zg (Zd (slv 0 0 1 1) (Zd (Iv 0) ?_))))))
    refine Zcu (p := slv 0 0 1 1) (vl := none) (vh := some (Iv 0)) (v := slv 0 0 0 1) rfl rfl rfl rfl rfl (Zjg (h := 0) rfl rfl (by omega) (by omega) rfl) ?_
    refine Zd (Iv 1) (Zd (Iv 1) ?_)
    refine Zl (vx := Iv 1) (vy := Iv 1) rfl rfl (Iv 2) rfl rfl (Zan (by omega) (by omega) (by omega)) ?_
    refine Zd (Iv 0) ?_
    refine Zl (vx := Iv 2) (vy := Iv 0) rfl rfl (Iv 2) rfl rfl (Zg8 (by omega) (by omega) (by omega)) ?_
    refine Z4a (p := slv 0 0 0 1) (q := Iv 2) (v := slv 4 0 2 2) (blk := (mxW 4 ([dead, dead, dead, dead, dead, dead, dead, dead]))) (nid := 4) (H' := [(exB 4 ([Iv 2, Iv 1, Iv 0, slv 1 0 1 1])), rwR Zh (Zu 1), Y12, rwR Zh (Zu 2), (mxW 4 ([dead, dead, dead, dead, dead, dead, dead, dead]))]) rfl rfl rfl rfl rfl (by kernel_rfl) (by kernel_rfl) ?_
    refine Zc (slv 4 0 2 2) (Za (Zb (Ze (Zg (Zd (slv 4 0 2 2) (Zd (Iv 0) ?_))))))
    refine Zcu (p := slv 4 0 2 2) (vl := some (Iv 0)) (vh := none) (v := slv 4 0 2 2) rfl rfl rfl rfl rfl (Zey (sz := 4) (l := 0) rfl rfl rfl (by omega) (by omega) (by omega) rfl (by omega) (by omega) (by omega)) ?_
    refine Zd (slv 2 0 1 1) ?_
    refine Zog (p := slv 4 0 2 2) (q := slv 2 0 1 1) (v := Iv 1) (b := 4) (blk := (mxW 4 ([Iv 1, Iv 1, Iv 0, slv 3 0 2 2, dead, dead, dead, dead]))) (H' := [(exB 4 ([Iv 2, Iv 1, Iv 0, slv 1 0 1 1])), rwR Zh (Zu 1), Y12, rwR Zh (Zu 2), (mxW 4 ([Iv 1, Iv 1, Iv 0, slv 3 0 2 2, dead, dead, dead, dead]))]) rfl rfl rfl rfl (by kernel_rfl) (by kernel_rfl) ?_
    refine Za (Zb (Ze ?_))
    refine Zgo (by kernel_rfl) ?_
    refine Zd (slv 4 0 2 2) (Zd (Iv 0) (Zd (Iv 1) ?_))
    refine Zl (vx := Iv 0) (vy := Iv 1) rfl rfl (Iv 1) rfl rfl (Zan (by omega) (by omega) (by omega)) ?_
    refine Zcu (p := slv 4 0 2 2) (vl := some (Iv 1)) (vh := none) (v := slv 4 4 1 1) rfl rfl rfl rfl rfl (Zey (sz := 4) (l := 1) rfl rfl rfl (by omega) (by omega) (by omega) rfl (by omega) (by omega) (by omega)) ?_
    refine Zd (slv 0 0 1 1) (Zd (Iv 0) ?_)
    refine Zcu (p := slv 0 0 1 1) (vl := some (Iv 0)) (vh := none) (v := slv 0 0 1 1) rfl rfl rfl rfl rfl (Zey (sz := 4) (l := 0) rfl rfl rfl (by omega) (by omega) (by omega) rfl (by omega) (by omega) (by omega)) ?_
    refine Zog (p := slv 4 4 1 1) (q := slv 0 0 1 1) (v := Iv 1) (b := 4) (blk := (mxW 4 ([Iv 1, Iv 1, Iv 0, slv 3 0 2 2, Iv 2, Iv 1, Iv 0, slv 1 0 1 1]))) (H' := [(exB 4 ([Iv 2, Iv 1, Iv 0, slv 1 0 1 1])), rwR Zh (Zu 1), Y12, rwR Zh (Zu 2), (mxW 4 ([Iv 1, Iv 1, Iv 0, slv 3 0 2 2, Iv 2, Iv 1, Iv 0, slv 1 0 1 1]))]) rfl rfl rfl rfl (by kernel_rfl) (by kernel_rfl) ?_
    refine Zef (Zd8 [[], [], [], [1, 2], [0, 1, 2, 3], [], [], [5, 6], [0, 1, 2, 3, 4, 5, 6, 7]] (by kernel_rfl) (by kernel_rfl)) ?_
    refine Zb (Ze (Zg (Zd (slv 4 0 2 2) (Zc (slv 4 0 2 2) (Za (Zb ?_))))))
    refine Zb6 (Zbe.moveTo (b := 0) (j := 4) (i := 6) (n := 2) (cc := 2) (l := []) (by decide) rfl ⟨rfl, rfl⟩ rfl ⟨rfl, rfl⟩ rfl (Zp (.inr rfl) (Zp (.inl rfl) (Zp (.inr rfl) (Zp (.inl rfl) (Zp (.inr rfl) Zfz))))) trivial) ?_
    refine Zia (H' := [(mxW 4 ([Iv 1, Iv 1, Iv 0, slv 3 0 2 2, Iv 2, Iv 1, Iv 0, slv 1 0 1 1])), rwR Zh (Zu 1), Y12, rwR Zh (Zu 2), hole]) (by kernel_rfl) ?_
    refine Zr (Z3 (Zs ?_))
    exact Zk (v := slv 0 0 2 2) rfl rfl rfl (by simp [Za6, rwR, rwB, mxR, mxW, mxL, Zh, Zal, Zcp, slv, Zh0, Zee]) ⟨rfl, rfl, rfl, by first | omega | exact Nat.le_refl _ | exact Nat.zero_le _ | (dsimp only; omega), by first | omega | exact Nat.le_refl _ | exact Nat.zero_le _ | (dsimp only; omega)⟩
  · refine Zia (H' := [(exB 4 ([Iv 2, Iv 1, Iv 0, slv 1 0 1 1, dead, dead, dead, dead] ++ List.replicate (k * 4) dead)), rwR Zh (Zu 1), Y12, rwR Zh (Zu 2)]) (by show [exB 4 ([Iv 2, Iv 1, Iv 0, slv 1 0 1 1] ++ List.replicate ((k + 1) * 4) dead), rwR Zh (Zu 1), (mxL 4 ([Iv 1, Iv 1, Iv 0, slv 3 0 2 2])), rwR Zh (Zu 2)] = _; rw [Z47]; rfl) ?_
    refine Zae 1 (H' := [(exB 4 ([Iv 2, Iv 1, Iv 0, slv 1 0 1 1, dead, dead, dead, dead] ++ List.replicate (k * 4) dead)), rwR Zh (Zu 1), Y12, rwR Zh (Zu 2), hole]) rfl ?_
    refine Ze (Zg (Zc (.slice none 0 0) (Za (Zb (Ze (Zg (Zd (slv 0 0 1 (k + 2)) (Zd (Iv 0) ?_))))))))
    refine Zcu (p := slv 0 0 1 (k + 2)) (vl := some (Iv 0)) (vh := none) (v := slv 0 0 1 (k + 2)) rfl rfl rfl rfl rfl (Zey (sz := 4) (l := 0) rfl rfl rfl (by omega) (by omega) (by omega) rfl (by omega) (by omega) (by omega)) ?_
    refine Za (Zb (Ze (Zg (Zd (slv 2 0 1 1) (Zba (p := slv 2 0 1 1) (v := Iv 1) (Zc (Iv 1) (Za (Zb (Ze (Ze (Zg (Zd (Iv 1) ?_))))))))))))
    refine Zl (vx := Iv 1) (vy := Iv 0) rfl rfl (.bool false) rfl rfl (Zed (by omega)) ?_
    refine Za (Zb (Zt rfl (Zx (Zb (Ze (Zg (Zd (slv 0 0 1 (k + 2)) (Zba (p := slv 0 0 1 (k + 2)) (v := Iv 1) (Zc (Iv 1) (Za (Zb (Ze (Ze (Zg (Zd (Iv 0) (Zd (Iv 1) ?_))))))))))))))))
    refine Zl (vx := Iv 0) (vy := Iv 1) rfl rfl (.bool false) rfl rfl (Zed (by omega)) ?_
    refine Za (Zb (Zt rfl (Zx (Zb (Ze (Ze (Zg (Zd (Iv 1) (Zd (Iv 1) ?_)))))))))
    refine Zl (vx := Iv 1) (vy := Iv 1) rfl rfl (Iv 2) rfl rfl (Zan (by omega) (by omega) (by omega)) ?_
    refine Zd (slv 0 0 1 (k + 2)) ?_
    refine Z20 (p := slv 0 0 1 (k + 2)) (v := Iv ((k : Nat) + 2)) rfl rfl rfl (by kernel_rfl) ?_
    refine Zl (vx := Iv 2) (vy := Iv ((k : Nat) + 2)) rfl rfl (.bool false) rfl rfl (Zgt (by omega)) ?_
    refine Za (Zb (Zt rfl (Zx (Zb (Ze (Zg (Zd (slv 0 0 1 (k + 2)) (Zd (Iv 1) (Zd (Iv 1) ?_)))))))))
    refine Zl (vx := Iv 1) (vy := Iv 1) rfl rfl (Iv 2) rfl rfl (Zan (by omega) (by omega) (by omega)) ?_
    refine Zcu (p := slv 0 0 1 (k + 2)) (vl := none) (vh := some (Iv 2)) (v := slv 0 0 2 (k + 2)) rfl rfl rfl rfl rfl (Zjg (h := 2) rfl rfl (by omega) (by omega) rfl) ?_
    refine Zc (slv 0 0 2 (k + 2)) (Za (Zb (Ze (Ze (Zg (Zd (slv 2 0 1 1) (Zd (slv 0 0 2 (k + 2)) (Zd (Iv 0) (Zd (Iv 1) ?_)))))))))
    refine Zl (vx := Iv 0) (vy := Iv 1) rfl rfl (Iv 1) rfl rfl (Zan (by omega) (by omega) (by omega)) ?_
    refine Zcu (p := slv 0 0 2 (k + 2)) (vl := some (Iv 1)) (vh := none) (v := slv 0 4 1 (k + 1)) rfl rfl rfl rfl rfl (Zey (sz := 4) (l := 1) rfl rfl rfl (by omega) (by omega) (by omega) rfl (by omega) (by omega) (by omega)) ?_
    refine Z4e Zud (p := slv 2 0 1 1) (q := slv 0 4 1 (k + 1)) (v := .bool false) rfl rfl rfl rfl (by kernel_rfl) ?_
    refine Zgz (vx := .bool false) rfl rfl (.bool true) rfl Zdk ?_
    refine Za (Zb (Zy rfl (Ze ?_)))
    refine Zgo (by kernel_rfl) ?_
    refine Zd (slv 0 0 2 (k + 2)) (Zd (Iv 0) (Zd (Iv 1) ?_))
    refine Zl (vx := Iv 0) (vy := Iv 1) rfl rfl (Iv 1) rfl rfl (Zan (by omega) (by omega) (by omega)) ?_
    refine Zcu (p := slv 0 0 2 (k + 2)) (vl := some (Iv 1)) (vh := none) (v := slv 0 4 1 (k + 1)) rfl rfl rfl rfl rfl (Zey (sz := 4) (l := 1) rfl rfl rfl (by omega) (by omega) (by omega) rfl (by omega) (by omega) (by omega)) ?_
    refine Zd (slv 0 0 2 (k + 2)) (Zd (Iv 0) ?_)
    refine Zcu (p := slv 0 0 2 (k + 2)) (vl := some (Iv 0)) (vh := none) (v := slv 0 0 2 (k + 2)) rfl rfl rfl rfl rfl (Zey (sz := 4) (l := 0) rfl rfl rfl (by omega) (by omega) (by omega) rfl (by omega) (by omega) (by omega)) ?_
    refine Zog (p := slv 0 4 1 (k + 1)) (q := slv 0 0 2 (k + 2)) (v := Iv 1) (b := 0) (blk := (exB 4 ([Iv 2, Iv 1, Iv 0, slv 1 0 1 1, Iv 2, Iv 1, Iv 0, slv 1 0 1 1] ++ List.replicate (k * 4) dead))) (H' := [(exB 4 ([Iv 2, Iv 1, Iv 0, slv 1 0 1 1, Iv 2, Iv 1, Iv 0, slv 1 0 1 1] ++ List.replicate (k * 4) dead)), rwR Zh (Zu 1), Y12, rwR Zh (Zu 2), hole]) rfl rfl rfl rfl (by kernel_rfl) (by kernel_rfl) ?_
    refine Zef (Zd8 [[], [], [], [1, 2], [0, 1, 2, 3], [], [], [5, 6], [0, 1, 2, 3, 4, 5, 6, 7]] (by kernel_rfl) (by kernel_rfl)) ?_
    refine Zb (Ze (Zg (Zd (slv 0 0 2 (k + 2)) (Zd (Iv 0) ?_))))
    refine Zcu (p := slv 0 0 2 (k + 2)) (vl := some (Iv 0)) (vh := none) (v := slv 0 0 2 (k + 2)) rfl rfl rfl rfl rfl (Zey (sz := 4) (l := 0) rfl rfl rfl (by omega) (by omega) (by omega) rfl (by omega) (by omega) (by omega)) ?_
    refine Zd (slv 2 0 1 1) ?_
    refine Zog (p := slv 0 0 2 (k + 2)) (q := slv 2 0 1 1) (v := Iv 1) (b := 0) (blk := (exB 4 ([Iv 1, Iv 1, Iv 0, slv 3 0 2 2, Iv 2, Iv 1, Iv 0, slv 1 0 1 1] ++ List.replicate (k * 4) dead))) (H' := [(exB 4 ([Iv 1, Iv 1, Iv 0, slv 3 0 2 2, Iv 2, Iv 1, Iv 0, slv 1 0 1 1] ++ List.replicate (k * 4) dead)), rwR Zh (Zu 1), Y12, rwR Zh (Zu 2), hole]) rfl rfl rfl rfl (by kernel_rfl) (by kernel_rfl) ?_
    refine Za (Zb (Ze (Zg (Zd (slv 0 0 2 (k + 2)) (Zc (slv 0 0 2 (k + 2)) (Za (Zb ?_)))))))
    refine Zb6 (Zbe.unexact (b := 0) (i := 6) (n := 2) (cc := k + 2) (sz := 4) (X := [Iv 1, Iv 1, Iv 0, slv 3 0 2 2, Iv 2, Iv 1, Iv 0, slv 1 0 1 1]) (D := List.replicate (k * 4) dead) (l := []) rfl rfl (by simp; omega) rfl (Zp (.inr (by show List.all (_ ++ _) _ = true; rw [List.all_append, Bool.and_eq_true]; exact ⟨rfl, List.all_eq_true.2 fun v hv => by rw [List.eq_of_mem_replicate hv]; rfl⟩)) (Zp (.inl rfl) (Zp (.inr rfl) (Zp (.inl rfl) (Zp (.inl rfl) Zfz))))) trivial) ?_
    refine Zia (H' := [(mxW 4 ([Iv 1, Iv 1, Iv 0, slv 3 0 2 2, Iv 2, Iv 1, Iv 0, slv 1 0 1 1])), rwR Zh (Zu 1), Y12, rwR Zh (Zu 2), hole]) (by kernel_rfl) ?_
    refine Zr (Z3 (Zs ?_))
    exact Zk (v := slv 0 0 2 2) rfl rfl rfl (by simp [Za6, rwR, rwB, mxR, mxW, mxL, Zh, Zal, Zcp, slv, Zh0, Zee]) ⟨rfl, rfl, rfl, by first | omega | exact Nat.le_refl _ | exact Nat.zero_le _ | (dsimp only; omega), by first | omega | exact Nat.le_refl _ | exact Nat.zero_le _ | (dsimp only; omega)⟩
end Go.Flat
