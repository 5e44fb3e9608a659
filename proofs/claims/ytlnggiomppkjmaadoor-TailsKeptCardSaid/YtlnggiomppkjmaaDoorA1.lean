/- Walks. -/
import Derived.Test.YtlnggiomppkjmaaDoorN3
import Derived.Test.YtlnggiomppkjmaaDoorQ2
import Derived.Test.YtlnggiomppkjmaaDoorFlatL
set_option linter.unusedVariables false
set_option linter.unusedSimpArgs false
set_option maxRecDepth 20000
namespace Go.Flat
open Go.Proofs
variable {G : Glob}
structure TailT where
  node : Int
  log : Int
  commit : Int
  items : List Item
instance : Inhabited TailT := ⟨⟨0, 0, 0, []⟩⟩
def Zio (a b : TailT) : Bool := decide (a.node = b.node ∧ a.log = b.log ∧ a.commit = b.commit) && Ze4 a.items b.items
theorem Zz9 {a b : TailT} (h1 : a.node = b.node) (h2 : a.log = b.log) (h3 : a.commit = b.commit) : Zio a b = Ze4 a.items b.items := by
 unfold Zio; rw [decide_eq_true ⟨h1, h2, h3⟩, Bool.true_and]
theorem Zol {a b : TailT} (h : a.node = b.node → a.log = b.log → a.commit = b.commit → False) : Zio a b = false := by
 unfold Zio; rw [decide_eq_false (fun q => h q.1 q.2.1 q.2.2)]; rfl
def Zje (t : TailT) : Prop := 1 ≤ t.node ∧ t.node ≤ 3 ∧ Zkk ⟨t.log, t.log, t.items, []⟩ ∧ 0 ≤ t.commit ∧ t.commit ≤ t.items.length
instance (t : TailT) : Decidable (Zje t) := inferInstanceAs (Decidable (_ ∧ _))
def Zfk (t : TailT) : Int := if Zje t then 0 else 150
theorem Zrt {t : TailT} (h : Zfk t = 0) : Zje t := by
 unfold Zfk at h
 split at h
 ·assumption
 ·omega
theorem Zrs {t : TailT} (h : ¬ Zfk t = 0) : ¬ Zje t := fun q => h (if_pos q)
def Zaq (kk : Nat → BitVec 32) (region epoch node : Int) (t : TailT) : Claim × Int :=
  if Zje t then (if Zc9 ⟨region, epoch, node, t.items.length, (Zbc kk t.items t.items.length).1⟩ = 0 then (⟨region, epoch, node, t.items.length, (Zbc kk t.items t.items.length).1⟩, 0) else (⟨0, 0, 0, 0, dz⟩, 150)) else (⟨0, 0, 0, 0, dz⟩, 150)
section
variable {kk : Nat → BitVec 32} {region epoch node : Int} {t : TailT} {n : Nat}
theorem Zph (hn : t.items.length = n) (h : Zje t) (hc : Zc9 ⟨region, epoch, node, n, (Zbc kk t.items n).1⟩ = 0) : Zaq kk region epoch node t = (⟨region, epoch, node, n, (Zbc kk t.items n).1⟩, 0) := by
 subst hn; unfold Zaq; rw [if_pos h, if_pos hc]
theorem Ztt (h : ¬ Zfk t = 0) : Zaq kk region epoch node t = (⟨0, 0, 0, 0, dz⟩, 150) := by
 unfold Zaq; rw [if_neg (Zrs h)]
theorem Zmk (h : ¬ Zfk t = 0) : Zaq kk region epoch node t = (⟨0, 0, 0, 0, dz⟩, Zfk t) := by
 rw [Ztt h]
 have := Zrs h
 unfold Zfk; rw [if_neg this]
theorem Zpg (hn : t.items.length = n) (h : Zfk t = 0) (hc : ¬ Zc9 ⟨region, epoch, node, n, (Zbc kk t.items n).1⟩ = 0) : Zaq kk region epoch node t = (⟨0, 0, 0, 0, dz⟩, 150) := by
 subst hn; unfold Zaq; rw [if_pos (Zrt h), if_neg hc]
end
def Zdy (t : TailT) (c : Claim) : List Item := t.items ++ [(⟨c.epoch, ⟨3, 0, 0, ⟨#[]⟩, ⟨⟨0, 0, 0, dz, 0⟩, 0, dz⟩, c⟩⟩ : Item)]
theorem Zmc (t : TailT) (c : Claim) : (Zdy t c).length = t.items.length + 1 := by unfold Zdy; simp
def Zmw (a b : TailT) : Int := orL [Zcm a.log b.log, Zcm a.items.length b.items.length]
def Zjz : List Int → Int
  | [] => 0
  | x :: l => l.foldl max x
theorem Zt8 {l : List Int} (h : 0 < l.length) : (l.drop 1).foldl max (l.getD 0 default) = Zjz l := by
 cases l with
 | nil => simp at h
 | cons x l => rfl
theorem Zw6 {l : List Int} {i : Nat} {m q : Int} (hi : i < l.length) (hq : q = max m (l.getD i default)) : (l.drop i).foldl max m = (l.drop (i + 1)).foldl max q := by
 subst hq
 rw [List.drop_eq_getElem_cons hi, List.foldl_cons, List.getD_eq_getElem?_getD, List.getElem?_eq_getElem hi]; rfl
theorem Zqy (t : TailT) (n c : Nat) (hn : t.items.length = n) (hc : n ≤ c) (hb : n ≤ 1048576) : Z4 Tryd.prog G 30 [mxV ([Iv t.node, Iv t.log, Iv t.commit, slv 0 0 n c])] [rwR Zh t.items] (mxV ([Iv t.node, Iv t.log, Iv t.commit, slv 1 0 n n])) [rwR Zh t.items, rwB Zh t.items] := by
  refine Zbd (fn := Tryd.f30) (nt := 8) rfl rfl rfl rfl ?_
  refine Zae 3 (H' := [rwR Zh t.items, hole, hole, hole]) rfl ?_
  refine Ze (Zg (Zbs (v := mxV ([Iv t.node, Iv t.log, Iv t.commit, slv 0 0 n c])) (b := mxB 4 ([Iv t.node, Iv t.log, Iv t.commit, slv 0 0 n c])) (nid := 1) (H' := [rwR Zh t.items, mxB 4 ([Iv t.node, Iv t.log, Iv t.commit, slv 0 0 n c]), hole, hole]) (Zaw (b := mxB 4 ([Iv 0, Iv 0, Iv 0, .slice none 0 0])) (nid := 2) (H' := [rwR Zh t.items, mxB 4 ([Iv t.node, Iv t.log, Iv t.commit, slv 0 0 n c]), mxB 4 ([Iv 0, Iv 0, Iv 0, .slice none 0 0]), hole]) (Za (Zb (Ze (Zg (Zi (b := 1) (o := 0) (n := 3) (o' := 3) (Zm (p := pt 1 3) (v := slv 0 0 n c) ?_)))))))))
  refine Z0 (e := [some (0, 0)]) (nid := 3) (Zwa (G := G) t.items n c hn (by omega) (by omega)) (vals := [slv 0 0 n c]) (v := slv 3 0 n n) (H' := [rwR Zh t.items, mxB 4 ([Iv t.node, Iv t.log, Iv t.commit, slv 0 0 n c]), mxB 4 ([Iv 0, Iv 0, Iv 0, .slice none 0 0]), rwB Zh t.items]) rfl rfl rfl rfl rfl rfl rfl ⟨⟨⟨rfl, rfl, rfl, by first | omega | exact Nat.le_refl _, by first | omega | exact Nat.le_refl _⟩, trivial⟩, ⟨(Zaz rfl), trivial⟩, rfl, rfl, rfl⟩ (by kernel_rfl) (by kernel_rfl) ?_
  refine Zi (b := 1) (o := 0) (n := 3) (o' := 3) (Zaa (p := pt 1 3) (v := slv 3 0 n n) (b := 1) (blk := mxB 4 ([Iv t.node, Iv t.log, Iv t.commit, slv 3 0 n n])) (H' := [rwR Zh t.items, mxB 4 ([Iv t.node, Iv t.log, Iv t.commit, slv 3 0 n n]), mxB 4 ([Iv 0, Iv 0, Iv 0, .slice none 0 0]), rwB Zh t.items]) (Za (Zb (Ze (Zg (Zm (p := pt 1 0) (v := mxV ([Iv t.node, Iv t.log, Iv t.commit, slv 3 0 n n])) (Zaa (p := pt 2 0) (v := mxV ([Iv t.node, Iv t.log, Iv t.commit, slv 3 0 n n])) (b := 2) (blk := mxB 4 ([Iv t.node, Iv t.log, Iv t.commit, slv 3 0 n n])) (H' := [rwR Zh t.items, mxB 4 ([Iv t.node, Iv t.log, Iv t.commit, slv 3 0 n n]), mxB 4 ([Iv t.node, Iv t.log, Iv t.commit, slv 3 0 n n]), rwB Zh t.items]) (Za (Zb (Zr (Zs ?_)))))))))))
  exact Za9 [0, 3] (v := mxV ([Iv t.node, Iv t.log, Iv t.commit, slv 3 0 n n])) rfl (by kernel_rfl) rfl rfl (by decide) (by simp [Za6, rwB, rwR, Zh]) (Zbh (by kernel_rfl) ⟨⟨rfl, rfl⟩, ⟨rfl, rfl⟩, ⟨rfl, rfl⟩, ⟨rfl, rfl, rfl, by first | omega | exact Nat.le_refl _ | exact Nat.zero_le _ | (dsimp only; omega), by first | omega | exact Nat.le_refl _ | exact Nat.zero_le _ | (dsimp only; omega)⟩, trivial⟩)
theorem Zs1 (a : TailT) (n c : Nat) (hn : a.items.length = n) (hc : n ≤ c) (hb : n ≤ 1048576) (b : TailT) (n' c' : Nat) (hn' : b.items.length = n') (hc' : n' ≤ c') (hb' : n' ≤ 1048576) : Z4 Tryd.prog G 12 [mxV ([Iv a.node, Iv a.log, Iv a.commit, slv 0 0 n c]), mxV ([Iv b.node, Iv b.log, Iv b.commit, slv 1 0 n' c'])] [rwR Zh a.items, rwR Zh b.items] (.bool (Zio a b)) [rwR Zh a.items, rwR Zh b.items] := by
  refine Zbd (fn := Tryd.f12) (nt := 31) rfl rfl rfl rfl ?_
  refine Zae 2 (H' := [rwR Zh a.items, rwR Zh b.items, hole, hole]) rfl ?_
  refine Ze (Zg (Zbs (v := mxV ([Iv a.node, Iv a.log, Iv a.commit, slv 0 0 n c])) (b := mxB 4 ([Iv a.node, Iv a.log, Iv a.commit, slv 0 0 n c])) (nid := 2) (H' := [rwR Zh a.items, rwR Zh b.items, mxB 4 ([Iv a.node, Iv a.log, Iv a.commit, slv 0 0 n c]), hole]) (Zbs (v := mxV ([Iv b.node, Iv b.log, Iv b.commit, slv 1 0 n' c'])) (b := mxB 4 ([Iv b.node, Iv b.log, Iv b.commit, slv 1 0 n' c'])) (nid := 3) (H' := [rwR Zh a.items, rwR Zh b.items, mxB 4 ([Iv a.node, Iv a.log, Iv a.commit, slv 0 0 n c]), mxB 4 ([Iv b.node, Iv b.log, Iv b.commit, slv 1 0 n' c'])]) (Zc (.bool false) (Za (Zb (Ze (Zg (Zi (b := 2) (o := 0) (n := 0) (o' := 0) (Zm (p := pt 2 0) (v := Iv a.node) (Zi (b := 3) (o := 0) (n := 0) (o' := 0) (Zm (p := pt 3 0) (v := Iv b.node) ?_))))))))))))
  by_cases h1 : a.node = b.node
  refine Zl (vx := Iv a.node) (vy := Iv b.node) rfl rfl (.bool true) rfl rfl (Zc2 (by omega)) ?_
  refine Zd (.bool true) (Zi (b := 2) (o := 0) (n := 1) (o' := 1) (Zm (p := pt 2 1) (v := Iv a.log) (Zi (b := 3) (o := 0) (n := 1) (o' := 1) (Zm (p := pt 3 1) (v := Iv b.log) ?_))))
  by_cases h2 : a.log = b.log
  refine Zl (vx := Iv a.log) (vy := Iv b.log) rfl rfl (.bool true) rfl rfl (Zc2 (by omega)) ?_
  refine Zj (.bool true) (Zd (.bool true) (Zi (b := 2) (o := 0) (n := 2) (o' := 2) (Zm (p := pt 2 2) (v := Iv a.commit) (Zi (b := 3) (o := 0) (n := 2) (o' := 2) (Zm (p := pt 3 2) (v := Iv b.commit) ?_)))))
  by_cases h3 : a.commit = b.commit
  refine Zl (vx := Iv a.commit) (vy := Iv b.commit) rfl rfl (.bool true) rfl rfl (Zc2 (by omega)) ?_
  refine Zj (.bool true) (Zd (.bool true) (Zi (b := 2) (o := 0) (n := 3) (o' := 3) (Zm (p := pt 2 3) (v := slv 0 0 n c) (Zi (b := 3) (o := 0) (n := 3) (o' := 3) (Zm (p := pt 3 3) (v := slv 1 0 n' c') ?_)))))
  refine Z0 (e := [some (0, 0), some (1, 0)]) (nid := 0) (Zuj (G := G) a.items b.items n c n' c' hn hn' (by omega) (by omega) (by omega) (by omega)) (vals := [slv 0 0 n c, slv 1 0 n' c']) (v := .bool (Ze4 a.items b.items)) (H' := [rwR Zh a.items, rwR Zh b.items, mxB 4 ([Iv a.node, Iv a.log, Iv a.commit, slv 0 0 n c]), mxB 4 ([Iv b.node, Iv b.log, Iv b.commit, slv 1 0 n' c'])]) rfl rfl rfl rfl rfl rfl rfl ⟨⟨⟨rfl, rfl, rfl, by first | omega | exact Nat.le_refl _, by first | omega | exact Nat.le_refl _⟩, ⟨rfl, rfl, rfl, by first | omega | exact Nat.le_refl _, by first | omega | exact Nat.le_refl _⟩, trivial⟩, ⟨(Zaz rfl), (Zaz rfl), trivial⟩, rfl, rfl, rfl⟩ rfl (by kernel_rfl) ?_
  refine Zj (.bool (Ze4 a.items b.items)) (Zc (.bool (Ze4 a.items b.items)) (Za (Zb (Zr (Zs ?_)))))
  rw [show Zio a b = Ze4 a.items b.items from Zz9 (by omega) (by omega) (by omega)]
  exact Zk (v := .bool (Ze4 a.items b.items)) rfl rfl rfl (by kernel_rfl) rfl
  refine Zl (vx := Iv a.commit) (vy := Iv b.commit) rfl rfl (.bool false) rfl rfl (Zed (by omega)) ?_
  refine Zj (.bool false) (Zd (.bool false) (Zf (Zf (Zf (Zf (Zf (Zj (.bool false) (Zc (.bool false) (Za (Zb (Zr (Zs ?_))))))))))))
  rw [show Zio a b = false from Zol (fun q1 q2 q3 => by omega)]
  exact Zk (v := .bool false) rfl rfl rfl (by kernel_rfl) rfl
  refine Zl (vx := Iv a.log) (vy := Iv b.log) rfl rfl (.bool false) rfl rfl (Zed (by omega)) ?_
  refine Zj (.bool false) (Zd (.bool false) (Zf (Zf (Zf (Zf (Zf (Zj (.bool false) (Zd (.bool false) (Zf (Zf (Zf (Zf (Zf (Zj (.bool false) (Zc (.bool false) (Za (Zb (Zr (Zs ?_)))))))))))))))))))
  rw [show Zio a b = false from Zol (fun q1 q2 q3 => by omega)]
  exact Zk (v := .bool false) rfl rfl rfl (by kernel_rfl) rfl
  refine Zl (vx := Iv a.node) (vy := Iv b.node) rfl rfl (.bool false) rfl rfl (Zed (by omega)) ?_
  refine Zd (.bool false) (Zf (Zf (Zf (Zf (Zf (Zj (.bool false) (Zd (.bool false) (Zf (Zf (Zf (Zf (Zf (Zj (.bool false) (Zd (.bool false) (Zf (Zf (Zf (Zf (Zf (Zj (.bool false) (Zc (.bool false) (Za (Zb (Zr (Zs ?_)))))))))))))))))))))))))
  rw [show Zio a b = false from Zol (fun q1 q2 q3 => by omega)]
  exact Zk (v := .bool false) rfl rfl rfl (by kernel_rfl) rfl
abbrev Y4 (t : TailT) (n : Nat) (c : Nat) : Blk := mxB 4 ([Iv t.node, Iv t.log, Iv t.commit, slv 0 0 n c])
theorem Zjj (t : TailT) (n c : Nat) (hn : t.items.length = n) (hc : n ≤ c) (hb : n ≤ 1048576) : Z4 Tryd.prog G 19 [mxV ([Iv t.node, Iv t.log, Iv t.commit, slv 0 0 n c])] [rwR Zh t.items] (Iv (Zfk t)) [rwR Zh t.items] := by
  refine Zbd (fn := Tryd.f19) (nt := 37) rfl rfl rfl rfl ?_
  refine Zae 2 (H' := [rwR Zh t.items, hole, hole]) rfl ?_
  refine Ze (Zg (Zbs (v := mxV ([Iv t.node, Iv t.log, Iv t.commit, slv 0 0 n c])) (b := mxB 4 ([Iv t.node, Iv t.log, Iv t.commit, slv 0 0 n c])) (nid := 1) (H' := [rwR Zh t.items, Y4 t n c, hole]) (Zc (Iv 0) (Za (Zb (Ze (Zg (Zi (b := 1) (o := 0) (n := 1) (o' := 1) (Zm (p := pt 1 1) (v := Iv t.log) (Zi (b := 1) (o := 0) (n := 1) (o' := 1) (Zm (p := pt 1 1) (v := Iv t.log) (Zi (b := 1) (o := 0) (n := 3) (o' := 3) (Zm (p := pt 1 3) (v := slv 0 0 n c) ?_)))))))))))))
  refine Zcz (vs := [(0, Iv t.log), (1, Iv t.log), (2, slv 0 0 n c)]) (v := mxV ([Iv t.log, Iv t.log, slv 0 0 n c, .slice none 0 0])) rfl rfl rfl (by kernel_rfl) ?_
  refine Zaw (b := mxB 4 ([Iv 0, Iv 0, .slice none 0 0, .slice none 0 0])) (nid := 2) (H' := [rwR Zh t.items, Y4 t n c, mxB 4 ([Iv 0, Iv 0, .slice none 0 0, .slice none 0 0])]) (Zaa (p := pt 2 0) (v := mxV ([Iv t.log, Iv t.log, slv 0 0 n c, .slice none 0 0])) (b := 2) (blk := mxB 4 ([Iv t.log, Iv t.log, slv 0 0 n c, .slice none 0 0])) (H' := [rwR Zh t.items, Y4 t n c, mxB 4 ([Iv t.log, Iv t.log, slv 0 0 n c, .slice none 0 0])]) (Za (Zb (Ze (Ze (Zg (Zi (b := 1) (o := 0) (n := 0) (o' := 0) (Zm (p := pt 1 0) (v := Iv t.node) ?_))))))))
  by_cases h1 : t.node < 1
  refine Zl (vx := Iv t.node) (vy := Iv 1) rfl rfl (.bool true) rfl rfl (Zc0 (by omega)) ?_
  refine Zd (.bool true) (Zf (Zf (Zf (Zj (.bool true) (Zd (.bool true) (Zf (Zf (Zf (Zj (.bool true) (Zd (.bool true) (Zf (Zf (Zf (Zj (.bool true) (Zd (.bool true) (Zf (Zf (Zf (Zf (Zf (Zf (Zj (.bool true) ?_))))))))))))))))))))))
  refine Za (Zb (Zy rfl (Ze (Zg (Zc (Iv 150) (Za (Zb (Zr (Z3 (Zs ?_))))))))))
  rw [show Zfk t = 150 from if_neg (fun q => by obtain ⟨q1, q2, q3, q4, q5⟩ := q; rw [hn] at q5; first | omega | exact Zhu (by omega) q3)]
  exact Zk (v := Iv 150) rfl rfl rfl (by kernel_rfl) rfl
  refine Zl (vx := Iv t.node) (vy := Iv 1) rfl rfl (.bool false) rfl rfl (Zct (by omega)) ?_
  refine Zd (.bool false) (Zi (b := 1) (o := 0) (n := 0) (o' := 0) (Zm (p := pt 1 0) (v := Iv t.node) ?_))
  by_cases h2 : 3 < t.node
  refine Zl (vx := Iv t.node) (vy := Iv 3) rfl rfl (.bool true) rfl rfl (Zgu (by omega)) ?_
  refine Zj (.bool true) (Zd (.bool true) (Zf (Zf (Zf (Zj (.bool true) (Zd (.bool true) (Zf (Zf (Zf (Zj (.bool true) (Zd (.bool true) (Zf (Zf (Zf (Zf (Zf (Zf (Zj (.bool true) (Za (Zb (Zy rfl (Ze (Zg (Zc (Iv 150) ?_))))))))))))))))))))))))
  refine Za (Zb (Zr (Z3 (Zs ?_))))
  rw [show Zfk t = 150 from if_neg (fun q => by obtain ⟨q1, q2, q3, q4, q5⟩ := q; rw [hn] at q5; first | omega | exact Zhu (by omega) q3)]
  exact Zk (v := Iv 150) rfl rfl rfl (by kernel_rfl) rfl
  refine Zl (vx := Iv t.node) (vy := Iv 3) rfl rfl (.bool false) rfl rfl (Zgt (by omega)) ?_
  refine Zj (.bool false) (Zd (.bool false) (Zm (p := pt 2 0) (v := mxV ([Iv t.log, Iv t.log, slv 0 0 n c, .slice none 0 0])) ?_))
  refine Z0 (e := [some (0, 0), none]) (nid := 0) (Zlu (G := G) (⟨t.log, t.log, t.items, []⟩ : Kept) n c 0 0 hn rfl (by omega) (by omega) (by omega) (by omega)) (vals := [mxV ([Iv t.log, Iv t.log, slv 0 0 n c, .slice none 0 0])]) (v := Iv (Zf8 (⟨t.log, t.log, t.items, []⟩ : Kept))) (H' := [rwR Zh t.items, Y4 t n c, mxB 4 ([Iv t.log, Iv t.log, slv 0 0 n c, .slice none 0 0])]) rfl rfl rfl rfl rfl rfl rfl ⟨⟨(Zbh (by kernel_rfl) ⟨⟨rfl, rfl⟩, ⟨rfl, rfl⟩, ⟨rfl, rfl, rfl, by first | omega | exact Nat.le_refl _, by first | omega | exact Nat.le_refl _⟩, ⟨rfl, rfl, rfl, rfl⟩, trivial⟩), trivial⟩, ⟨(Zaz rfl), ⟨rfl, rfl, by first | exact Nat.succ_pos _ | (show 0 < _; decide)⟩, trivial⟩, rfl, rfl, rfl⟩ rfl (by kernel_rfl) ?_
  by_cases h3 : (Zf8 (⟨t.log, t.log, t.items, []⟩ : Kept)) ≠ 0
  refine Zl (vx := Iv (Zf8 (⟨t.log, t.log, t.items, []⟩ : Kept))) (vy := Iv 0) rfl rfl (.bool true) rfl rfl (Zfc (by omega)) ?_
  refine Zj (.bool true) (Zd (.bool true) (Zf (Zf (Zf (Zj (.bool true) (Zd (.bool true) (Zf (Zf (Zf (Zf (Zf (Zf (Zj (.bool true) (Za (Zb (Zy rfl (Ze (Zg (Zc (Iv 150) (Za (Zb (Zr (Z3 (Zs ?_))))))))))))))))))))))))
  rw [show Zfk t = 150 from if_neg (fun q => by obtain ⟨q1, q2, q3, q4, q5⟩ := q; rw [hn] at q5; first | omega | exact Zhu (by omega) q3)]
  exact Zk (v := Iv 150) rfl rfl rfl (by kernel_rfl) rfl
  refine Zl (vx := Iv (Zf8 (⟨t.log, t.log, t.items, []⟩ : Kept))) (vy := Iv 0) rfl rfl (.bool false) rfl rfl (Ze3 (by omega)) ?_
  refine Zj (.bool false) (Zd (.bool false) (Zi (b := 1) (o := 0) (n := 2) (o' := 2) (Zm (p := pt 1 2) (v := Iv t.commit) ?_)))
  by_cases h4 : t.commit < 0
  refine Zl (vx := Iv t.commit) (vy := Iv 0) rfl rfl (.bool true) rfl rfl (Zc0 (by omega)) ?_
  refine Zj (.bool true) (Zd (.bool true) (Zf (Zf (Zf (Zf (Zf (Zf (Zj (.bool true) (Za (Zb (Zy rfl (Ze (Zg (Zc (Iv 150) (Za (Zb (Zr (Z3 (Zs ?_)))))))))))))))))))
  rw [show Zfk t = 150 from if_neg (fun q => by obtain ⟨q1, q2, q3, q4, q5⟩ := q; rw [hn] at q5; first | omega | exact Zhu (by omega) q3)]
  exact Zk (v := Iv 150) rfl rfl rfl (by kernel_rfl) rfl
  refine Zl (vx := Iv t.commit) (vy := Iv 0) rfl rfl (.bool false) rfl rfl (Zct (by omega)) ?_
  refine Zj (.bool false) (Zd (.bool false) (Zi (b := 1) (o := 0) (n := 2) (o' := 2) (Zm (p := pt 1 2) (v := Iv t.commit) (Zi (b := 1) (o := 0) (n := 3) (o' := 3) (Zm (p := pt 1 3) (v := slv 0 0 n c) (Zba (p := slv 0 0 n c) (v := Iv (n : Nat)) ?_))))))
  by_cases h5 : (n : Nat) < t.commit
  refine Zl (vx := Iv t.commit) (vy := Iv (n : Nat)) rfl rfl (.bool true) rfl rfl (Zgu (by omega)) ?_
  refine Zj (.bool true) (Za (Zb (Zy rfl (Ze (Zg (Zc (Iv 150) (Za (Zb (Zr (Z3 (Zs ?_)))))))))))
  rw [show Zfk t = 150 from if_neg (fun q => by obtain ⟨q1, q2, q3, q4, q5⟩ := q; rw [hn] at q5; first | omega | exact Zhu (by omega) q3)]
  exact Zk (v := Iv 150) rfl rfl rfl (by kernel_rfl) rfl
  refine Zl (vx := Iv t.commit) (vy := Iv (n : Nat)) rfl rfl (.bool false) rfl rfl (Zgt (by omega)) ?_
  refine Zj (.bool false) (Za (Zb (Zt rfl (Zx (Zb (Ze (Zg (Zc (Iv 0) (Za (Zb (Zr (Zs ?_))))))))))))
  rw [show Zfk t = 0 from if_pos ⟨by omega, by omega, Zrr (by omega), by omega, by rw [hn]; omega⟩]
  exact Zk (v := Iv 0) rfl rfl rfl (by kernel_rfl) rfl
abbrev Y5 (t : TailT) (n : Nat) (c : Nat) : Blk := mxB 4 ([Iv t.node, Iv t.log, Iv t.commit, slv 0 0 n c])
abbrev Y6  : Blk := bxB 36 (Zam (⟨0, 0, 0, 0, dz⟩ : Claim))
abbrev Y7 (kk : Nat → BitVec 32) (region : Int) (epoch : Int) (node : Int) (t : TailT) (n : Nat) : Blk := bxB 36 (Zam (⟨region, epoch, node, (n : Nat), (Zbc kk t.items (n : Nat)).1⟩ : Claim))
theorem Zpd (kk : Nat → BitVec 32) (hG : G 0 = some (Zag w32 64 kk)) (hG1 : G 2 = some (Zag u8N 64 dbF)) (region epoch node : Int) (t : TailT) (n c : Nat) (hn : t.items.length = n) (hc : n ≤ c) (hb : n ≤ 1048576) : Z4 Tryd.prog G 17 [Iv region, Iv epoch, Iv node, mxV ([Iv t.node, Iv t.log, Iv t.commit, slv 0 0 n c])] [rwR Zh t.items] (.tuple #[Zac (Zaq kk region epoch node t).1, Iv (Zaq kk region epoch node t).2]) [rwR Zh t.items] := by
  refine Zbd (fn := Tryd.f17) (nt := 42) rfl rfl rfl rfl ?_
  refine Zae 4 (H' := [rwR Zh t.items, hole, hole, hole, hole]) rfl ?_
  refine Ze (Zg (Zbs (v := mxV ([Iv t.node, Iv t.log, Iv t.commit, slv 0 0 n c])) (b := mxB 4 ([Iv t.node, Iv t.log, Iv t.commit, slv 0 0 n c])) (nid := 1) (H' := [rwR Zh t.items, Y5 t n c, hole, hole, hole]) (Zaw (b := bxB 36 (Zam (⟨0, 0, 0, 0, dz⟩ : Claim))) (nid := 2) (H' := [rwR Zh t.items, Y5 t n c, Y6, hole, hole]) (Zc (Iv 0) (Za (Zb (Ze (Ze (Zg (Zm (p := pt 1 0) (v := mxV ([Iv t.node, Iv t.log, Iv t.commit, slv 0 0 n c])) ?_))))))))))
  refine Z0 (e := [some (0, 0)]) (nid := 0) (Zjj (G := G) t n c hn (by omega) (by omega)) (vals := [mxV ([Iv t.node, Iv t.log, Iv t.commit, slv 0 0 n c])]) (v := Iv (Zfk t)) (H' := [rwR Zh t.items, Y5 t n c, Y6, hole, hole]) rfl rfl rfl rfl rfl rfl rfl ⟨⟨(Zbh (by kernel_rfl) ⟨⟨rfl, rfl⟩, ⟨rfl, rfl⟩, ⟨rfl, rfl⟩, ⟨rfl, rfl, rfl, by first | omega | exact Nat.le_refl _, by first | omega | exact Nat.le_refl _⟩, trivial⟩), trivial⟩, ⟨(Zaz rfl), trivial⟩, rfl, rfl, rfl⟩ rfl (by kernel_rfl) ?_
  refine Zc (Iv (Zfk t)) (Za (Zb (Ze (Zg (Zd (Iv (Zfk t)) ?_)))))
  by_cases h1 : (Zfk t) ≠ 0
  refine Zl (vx := Iv (Zfk t)) (vy := Iv 0) rfl rfl (.bool true) rfl rfl (Zfc (by omega)) ?_
  refine Za (Zb (Zy rfl (Ze (Zg ?_))))
  refine Zcz (vs := []) (v := Zac (⟨0, 0, 0, 0, dz⟩ : Claim)) rfl rfl rfl (by kernel_rfl) ?_
  refine Zd (Iv (Zfk t)) (Zaa (p := pt 2 0) (v := Zac (⟨0, 0, 0, 0, dz⟩ : Claim)) (b := 2) (blk := bxB 36 (Zam (⟨0, 0, 0, 0, dz⟩ : Claim))) (H' := [rwR Zh t.items, Y5 t n c, Y6, hole, hole]) (Zc (Iv (Zfk t)) (Za (Zb (Zr (Z3 (Zs ?_)))))))
  rw [show Zaq kk region epoch node t = (⟨0, 0, 0, 0, dz⟩, (Zfk t)) from by first | exact Zmk (by omega) | exact Zpg hn (by omega) (by omega)]
  exact Zk (v := .tuple #[Zac (⟨0, 0, 0, 0, dz⟩ : Claim), Iv (Zfk t)]) (by kernel_rfl) rfl rfl (by simp [Za6, rwB, rwR, Zh]) ⟨(Zto (by kernel_rfl) rfl), rfl, trivial⟩
  refine Zl (vx := Iv (Zfk t)) (vy := Iv 0) rfl rfl (.bool false) rfl rfl (Ze3 (by omega)) ?_
  refine Za (Zb (Zt rfl (Zx (Zb (Ze (Zg (Zi (b := 1) (o := 0) (n := 3) (o' := 3) (Zm (p := pt 1 3) (v := slv 0 0 n c) (Zba (p := slv 0 0 n c) (v := Iv (n : Nat)) (Zc (Iv (n : Nat)) (Za (Zb (Ze (Zg (Zi (b := 1) (o := 0) (n := 3) (o' := 3) (Zm (p := pt 1 3) (v := slv 0 0 n c) (Zd (Iv (n : Nat)) ?_)))))))))))))))))
  refine Z0 (e := [some (0, 0)]) (nid := 0) (Zxw (G := G) kk hG hG1 t.items n c hn (by omega) (by omega) (n : Nat)) (vals := [slv 0 0 n c, Iv (n : Nat)]) (v := .tuple #[dgV ((Zbc kk t.items (n : Nat)).1), Iv ((Zbc kk t.items (n : Nat)).2)]) (H' := [rwR Zh t.items, Y5 t n c, Y6, hole, hole]) rfl rfl rfl rfl rfl rfl rfl ⟨⟨⟨rfl, rfl, rfl, by first | omega | exact Nat.le_refl _, by first | omega | exact Nat.le_refl _⟩, rfl, trivial⟩, ⟨(Zaz rfl), trivial⟩, rfl, rfl, rfl⟩ (by kernel_rfl) (by kernel_rfl) ?_
  refine Zd (.tuple #[dgV ((Zbc kk t.items (n : Nat)).1), Iv ((Zbc kk t.items (n : Nat)).2)]) (Z1 (vs := #[dgV ((Zbc kk t.items (n : Nat)).1), Iv ((Zbc kk t.items (n : Nat)).2)]) (v := dgV ((Zbc kk t.items (n : Nat)).1)) (Z1 (vs := #[dgV ((Zbc kk t.items (n : Nat)).1), Iv ((Zbc kk t.items (n : Nat)).2)]) (v := Iv ((Zbc kk t.items (n : Nat)).2)) (Zaw (b := dgB dz) (nid := 3) (H' := [rwR Zh t.items, Y5 t n c, Y6, dgB dz, hole]) (Zaa (p := pt 3 0) (v := dgV ((Zbc kk t.items (n : Nat)).1)) (b := 3) (blk := dgB ((Zbc kk t.items (n : Nat)).1)) (H' := [rwR Zh t.items, Y5 t n c, Y6, dgB ((Zbc kk t.items (n : Nat)).1), hole]) (Zc (Iv ((Zbc kk t.items (n : Nat)).2)) (Za (Zb (Ze (Zg (Zd (Iv region) (Zd (Iv epoch) (Zd (Iv node) (Zd (Iv (n : Nat)) (Zm (p := pt 3 0) (v := dgV ((Zbc kk t.items (n : Nat)).1)) ?_))))))))))))))
  refine Zcz (vs := [(0, Iv region), (1, Iv epoch), (2, Iv node), (3, Iv (n : Nat)), (4, dgV ((Zbc kk t.items (n : Nat)).1))]) (v := Zac (⟨region, epoch, node, (n : Nat), (Zbc kk t.items (n : Nat)).1⟩ : Claim)) rfl rfl rfl (by kernel_rfl) ?_
  refine Zaw (b := bxB 36 (Zam (⟨0, 0, 0, 0, dz⟩ : Claim))) (nid := 4) (H' := [rwR Zh t.items, Y5 t n c, Y6, dgB ((Zbc kk t.items (n : Nat)).1), Y6]) (Zaa (p := pt 4 0) (v := Zac (⟨region, epoch, node, (n : Nat), (Zbc kk t.items (n : Nat)).1⟩ : Claim)) (b := 4) (blk := bxB 36 (Zam (⟨region, epoch, node, (n : Nat), (Zbc kk t.items (n : Nat)).1⟩ : Claim))) (H' := [rwR Zh t.items, Y5 t n c, Y6, dgB ((Zbc kk t.items (n : Nat)).1), Y7 kk region epoch node t n]) (Za (Zb (Ze (Ze (Zg (Zm (p := pt 4 0) (v := Zac (⟨region, epoch, node, (n : Nat), (Zbc kk t.items (n : Nat)).1⟩ : Claim)) ?_)))))))
  refine Zq (Zfv (G := G) (⟨region, epoch, node, (n : Nat), (Zbc kk t.items (n : Nat)).1⟩ : Claim)) (vals := [Zac (⟨region, epoch, node, (n : Nat), (Zbc kk t.items (n : Nat)).1⟩ : Claim)]) (res' := Iv (Zc9 (⟨region, epoch, node, (n : Nat), (Zbc kk t.items (n : Nat)).1⟩ : Claim))) rfl rfl rfl rfl rfl rfl ?_
  by_cases h2 : (Zc9 (⟨region, epoch, node, (n : Nat), (Zbc kk t.items (n : Nat)).1⟩ : Claim)) ≠ 0
  refine Zl (vx := Iv (Zc9 (⟨region, epoch, node, (n : Nat), (Zbc kk t.items (n : Nat)).1⟩ : Claim))) (vy := Iv 0) rfl rfl (.bool true) rfl rfl (Zfc (by omega)) ?_
  refine Za (Zb (Zy rfl (Ze (Zg ?_))))
  refine Zcz (vs := []) (v := Zac (⟨0, 0, 0, 0, dz⟩ : Claim)) rfl rfl rfl (by kernel_rfl) ?_
  refine Zaa (p := pt 2 0) (v := Zac (⟨0, 0, 0, 0, dz⟩ : Claim)) (b := 2) (blk := bxB 36 (Zam (⟨0, 0, 0, 0, dz⟩ : Claim))) (H' := [rwR Zh t.items, Y5 t n c, Y6, dgB ((Zbc kk t.items (n : Nat)).1), Y7 kk region epoch node t n]) (Zc (Iv 150) (Za (Zb (Zr (Z3 (Zs ?_))))))
  rw [show Zaq kk region epoch node t = (⟨0, 0, 0, 0, dz⟩, 150) from by first | exact Zmk (by omega) | exact Zpg hn (by omega) (by omega)]
  exact Zk (v := .tuple #[Zac (⟨0, 0, 0, 0, dz⟩ : Claim), Iv 150]) (by kernel_rfl) rfl rfl (by simp [Za6, rwB, rwR, Zh]) ⟨(Zto (by kernel_rfl) rfl), rfl, trivial⟩
  refine Zl (vx := Iv (Zc9 (⟨region, epoch, node, (n : Nat), (Zbc kk t.items (n : Nat)).1⟩ : Claim))) (vy := Iv 0) rfl rfl (.bool false) rfl rfl (Ze3 (by omega)) ?_
  refine Za (Zb (Zt rfl (Zx (Zb (Ze (Zg (Zm (p := pt 4 0) (v := Zac (⟨region, epoch, node, (n : Nat), (Zbc kk t.items (n : Nat)).1⟩ : Claim)) (Zaa (p := pt 2 0) (v := Zac (⟨region, epoch, node, (n : Nat), (Zbc kk t.items (n : Nat)).1⟩ : Claim)) (b := 2) (blk := bxB 36 (Zam (⟨region, epoch, node, (n : Nat), (Zbc kk t.items (n : Nat)).1⟩ : Claim))) (H' := [rwR Zh t.items, Y5 t n c, Y7 kk region epoch node t n, dgB ((Zbc kk t.items (n : Nat)).1), Y7 kk region epoch node t n]) (Zc (Iv 0) (Za (Zb (Zr (Zs ?_)))))))))))))
  rw [show Zaq kk region epoch node t = ((⟨region, epoch, node, n, (Zbc kk t.items n).1⟩ : Claim), 0) from Zph hn (Zrt (by omega)) (by omega)]
  exact Zk (v := .tuple #[Zac (⟨region, epoch, node, (n : Nat), (Zbc kk t.items (n : Nat)).1⟩ : Claim), Iv 0]) (by kernel_rfl) rfl rfl (by simp [Za6, rwB, rwR, Zh]) ⟨(Zto (by kernel_rfl) rfl), rfl, trivial⟩
abbrev Y8 (t : TailT) (n : Nat) (d : Nat) : Blk := mxB 4 ([Iv t.node, Iv t.log, Iv t.commit, slv 0 0 n d])
theorem Zrf (t : TailT) (n d : Nat) (hn : t.items.length = n) (hc : n ≤ d) (hb : n ≤ 1048576) (c : Claim) : Z4 Tryd.prog G 18 [mxV ([Iv t.node, Iv t.log, Iv t.commit, slv 0 0 n d]), Zac c] [rwR Zh t.items] (slv 1 0 (n + 1) (n + 1)) [rwR Zh t.items, rwB Zh (Zdy t c)] := by
  refine Zbd (fn := Tryd.f18) (nt := 15) rfl rfl rfl rfl ?_
  refine Zae 4 (H' := [rwR Zh t.items, hole, hole, hole, hole]) rfl ?_
  refine Ze (Zg (Zbs (v := mxV ([Iv t.node, Iv t.log, Iv t.commit, slv 0 0 n d])) (b := mxB 4 ([Iv t.node, Iv t.log, Iv t.commit, slv 0 0 n d])) (nid := 1) (H' := [rwR Zh t.items, Y8 t n d, hole, hole, hole]) (Zbs (v := Zac c) (b := bxB 36 (Zam c)) (nid := 2) (H' := [rwR Zh t.items, Y8 t n d, bxB 36 (Zam c), hole, hole]) (Zc (.slice none 0 0) (Za (Zb (Ze ?_)))))))
  refine Zha (by kernel_rfl) ?_
  refine Zm (p := pt 1 0) (v := mxV ([Iv t.node, Iv t.log, Iv t.commit, slv 0 0 n d])) ?_
  refine Z0 (e := [some (0, 0)]) (nid := 3) (Zqy (G := G) t n d hn (by omega) (by omega)) (vals := [mxV ([Iv t.node, Iv t.log, Iv t.commit, slv 0 0 n d])]) (v := mxV ([Iv t.node, Iv t.log, Iv t.commit, slv 3 0 n n])) (H' := [rwR Zh t.items, Y8 t n d, bxB 36 (Zam c), rwB Zh t.items, hole]) rfl rfl rfl rfl rfl rfl rfl ⟨⟨(Zbh (by kernel_rfl) ⟨⟨rfl, rfl⟩, ⟨rfl, rfl⟩, ⟨rfl, rfl⟩, ⟨rfl, rfl, rfl, by first | omega | exact Nat.le_refl _, by first | omega | exact Nat.le_refl _⟩, trivial⟩), trivial⟩, ⟨(Zaz rfl), trivial⟩, rfl, rfl, rfl⟩ (by kernel_rfl) (by kernel_rfl) ?_
  refine Z17 (p := mxV ([Iv t.node, Iv t.log, Iv t.commit, slv 3 0 n n])) (v := slv 3 0 n n) rfl rfl rfl (by kernel_rfl) ?_
  refine Zi (b := 2) (o := 0) (n := 1) (o' := 1) (Zm (p := pt 2 1) (v := Iv c.epoch) (Zm (p := pt 2 0) (v := Zac c) ?_))
  refine Zcz (vs := [(0, Iv 3), (5, Zac c)]) (v := Zdv (⟨3, 0, 0, ⟨#[]⟩, (⟨(⟨0, 0, 0, dz, 0⟩ : Head), 0, dz⟩ : Signed), c⟩ : Entry)) rfl rfl rfl (by kernel_rfl) ?_
  refine Zcz (vs := [(0, Iv c.epoch), (1, Zdv (⟨3, 0, 0, ⟨#[]⟩, (⟨(⟨0, 0, 0, dz, 0⟩ : Head), 0, dz⟩ : Signed), c⟩ : Entry))]) (v := Zcs (⟨c.epoch, (⟨3, 0, 0, ⟨#[]⟩, (⟨(⟨0, 0, 0, dz, 0⟩ : Head), 0, dz⟩ : Signed), c⟩ : Entry)⟩ : Item)) rfl rfl rfl (by kernel_rfl) ?_
  refine Zen (vs := [(0, Zcs (⟨c.epoch, (⟨3, 0, 0, ⟨#[]⟩, (⟨(⟨0, 0, 0, dz, 0⟩ : Head), 0, dz⟩ : Signed), c⟩ : Entry)⟩ : Item))]) (v := slv 4 0 1 1) (blk := rwB Zh [(⟨c.epoch, (⟨3, 0, 0, ⟨#[]⟩, (⟨(⟨0, 0, 0, dz, 0⟩ : Head), 0, dz⟩ : Signed), c⟩ : Entry)⟩ : Item)]) (nid := 4) (H' := [rwR Zh t.items, Y8 t n d, bxB 36 (Zam c), rwB Zh t.items, rwB Zh [(⟨c.epoch, (⟨3, 0, 0, ⟨#[]⟩, (⟨(⟨0, 0, 0, dz, 0⟩ : Head), 0, dz⟩ : Signed), c⟩ : Entry)⟩ : Item)]]) rfl rfl rfl (by kernel_rfl) (by kernel_rfl) ?_
  have hl2 : (t.items ++ [(⟨c.epoch, (⟨3, 0, 0, ⟨#[]⟩, (⟨(⟨0, 0, 0, dz, 0⟩ : Head), 0, dz⟩ : Signed), c⟩ : Entry)⟩ : Item)]).length = n + 1 := by have := hn; have := (rfl : _ = 1); first | (rw [List.length_append]; omega) | (rw [List.length_append, List.length_take]; omega) | (simp; omega) | simp
  refine Zc4 (p := slv 3 0 n n) (q := slv 4 0 1 1) (v := slv 3 0 (n + 1) (n + 1)) (b := 3) (blk := rwB Zh (t.items ++ [(⟨c.epoch, (⟨3, 0, 0, ⟨#[]⟩, (⟨(⟨0, 0, 0, dz, 0⟩ : Head), 0, dz⟩ : Signed), c⟩ : Entry)⟩ : Item)])) (H' := [rwR Zh t.items, Y8 t n d, bxB 36 (Zam c), rwB Zh (t.items ++ [(⟨c.epoch, (⟨3, 0, 0, ⟨#[]⟩, (⟨(⟨0, 0, 0, dz, 0⟩ : Head), 0, dz⟩ : Signed), c⟩ : Entry)⟩ : Item)]), rwB Zh [(⟨c.epoch, (⟨3, 0, 0, ⟨#[]⟩, (⟨(⟨0, 0, 0, dz, 0⟩ : Head), 0, dz⟩ : Signed), c⟩ : Entry)⟩ : Item)]]) rfl rfl rfl (.inl ⟨_, rfl⟩) rfl rfl (Zh6 Zh (by_ := 216) (k := 1) (n' := n + 1) (ms := [(⟨c.epoch, (⟨3, 0, 0, ⟨#[]⟩, (⟨(⟨0, 0, 0, dz, 0⟩ : Head), 0, dz⟩ : Signed), c⟩ : Entry)⟩ : Item)]) (fun _ => rfl) rfl rfl (by kernel_rfl) rfl rfl (by have := hn; omega) (by omega) (by decide) (by omega)) rfl (by kernel_rfl) ?_
  refine Zc (slv 3 0 (n + 1) (n + 1)) ?_
  refine Zet (Zc1 [[], [0], [0, 1], [], [3], [], [5], [3, 4, 5, 6], [3, 4, 5, 6, 7], [0, 1, 2, 3, 4, 5, 6, 7, 8], [0, 1, 2, 3, 4, 5, 6, 7, 8, 9]] (by kernel_rfl) (by kernel_rfl)) ?_
  refine Zb (Zr (Zs ?_))
  exact Za9 [0, 3] (v := slv 3 0 (n + 1) (n + 1)) rfl (by kernel_rfl) rfl rfl (by decide) (by simp [Za6, rwB, rwR, Zh]) ⟨rfl, rfl, rfl, by first | omega | exact Nat.le_refl _ | exact Nat.zero_le _ | (dsimp only; omega), by first | omega | exact Nat.le_refl _ | exact Nat.zero_le _ | (dsimp only; omega)⟩
abbrev Y9 (a : TailT) (n : Nat) (c : Nat) : Blk := mxB 4 ([Iv a.node, Iv a.log, Iv a.commit, slv 0 0 n c])
theorem Z07 (a : TailT) (n c : Nat) (hn : a.items.length = n) (hc : n ≤ c) (hb : n ≤ 1048576) (b : TailT) (n' c' : Nat) (hn' : b.items.length = n') (hc' : n' ≤ c') (hb' : n' ≤ 1048576) : Z4 Tryd.prog G 24 [mxV ([Iv a.node, Iv a.log, Iv a.commit, slv 0 0 n c]), mxV ([Iv b.node, Iv b.log, Iv b.commit, slv 1 0 n' c'])] [rwR Zh a.items, rwR Zh b.items] (Iv (Zmw a b)) [rwR Zh a.items, rwR Zh b.items] := by
  refine Zbd (fn := Tryd.f24) (nt := 19) rfl rfl rfl rfl ?_
  refine Zae 3 (H' := [rwR Zh a.items, rwR Zh b.items, hole, hole, hole]) rfl ?_
  refine Ze (Zg (Zbs (v := mxV ([Iv a.node, Iv a.log, Iv a.commit, slv 0 0 n c])) (b := mxB 4 ([Iv a.node, Iv a.log, Iv a.commit, slv 0 0 n c])) (nid := 2) (H' := [rwR Zh a.items, rwR Zh b.items, Y9 a n c, hole, hole]) (Zbs (v := mxV ([Iv b.node, Iv b.log, Iv b.commit, slv 1 0 n' c'])) (b := mxB 4 ([Iv b.node, Iv b.log, Iv b.commit, slv 1 0 n' c'])) (nid := 3) (H' := [rwR Zh a.items, rwR Zh b.items, Y9 a n c, mxB 4 ([Iv b.node, Iv b.log, Iv b.commit, slv 1 0 n' c']), hole]) (Zc (Iv 0) (Za (Zb (Ze ?_)))))))
  refine Zgo (by kernel_rfl) ?_
  refine Zi (b := 2) (o := 0) (n := 1) (o' := 1) (Zm (p := pt 2 1) (v := Iv a.log) (Zi (b := 3) (o := 0) (n := 1) (o' := 1) (Zm (p := pt 3 1) (v := Iv b.log) ?_)))
  refine Zq (Zh5 (G := G) a.log b.log) (vals := [Iv a.log, Iv b.log]) (res' := Iv (Zcm a.log b.log)) rfl rfl rfl rfl rfl rfl ?_
  refine Zi (b := 2) (o := 0) (n := 3) (o' := 3) (Zm (p := pt 2 3) (v := slv 0 0 n c) (Zba (p := slv 0 0 n c) (v := Iv (n : Nat)) (Zi (b := 3) (o := 0) (n := 3) (o' := 3) (Zm (p := pt 3 3) (v := slv 1 0 n' c') (Zba (p := slv 1 0 n' c') (v := Iv (n' : Nat)) ?_)))))
  refine Zq (Zh5 (G := G) (n : Nat) (n' : Nat)) (vals := [Iv (n : Nat), Iv (n' : Nat)]) (res' := Iv (Zcm (n : Nat) (n' : Nat))) rfl rfl rfl rfl rfl rfl ?_
  refine Zen (vs := [(0, Iv (Zcm a.log b.log)), (1, Iv (Zcm (n : Nat) (n' : Nat)))]) (v := slv 4 0 2 2) (blk := rwB Zd1 [(Zcm a.log b.log), (Zcm (n : Nat) (n' : Nat))]) (nid := 4) (H' := [rwR Zh a.items, rwR Zh b.items, Y9 a n c, mxB 4 ([Iv b.node, Iv b.log, Iv b.commit, slv 1 0 n' c']), rwB Zd1 [(Zcm a.log b.log), (Zcm (n : Nat) (n' : Nat))]]) rfl rfl rfl (by kernel_rfl) (by kernel_rfl) ?_
  refine Z0 (e := [some (4, 0)]) (nid := 0) (Z2r (G := G) [(Zcm a.log b.log), (Zcm (n : Nat) (n' : Nat))] 2 2 (rfl : _ = 2) (by omega) (by omega)) (vals := [slv 4 0 2 2]) (v := Iv (orL [(Zcm a.log b.log), (Zcm (n : Nat) (n' : Nat))])) (H' := [rwR Zh a.items, rwR Zh b.items, Y9 a n c, mxB 4 ([Iv b.node, Iv b.log, Iv b.commit, slv 1 0 n' c']), rwB Zd1 [(Zcm a.log b.log), (Zcm (n : Nat) (n' : Nat))]]) rfl rfl rfl rfl rfl rfl rfl ⟨⟨⟨rfl, rfl, rfl, by first | omega | exact Nat.le_refl _, by first | omega | exact Nat.le_refl _⟩, trivial⟩, ⟨(Zbq rfl), trivial⟩, rfl, rfl, rfl⟩ rfl (by kernel_rfl) ?_
  refine Zc (Iv (orL [(Zcm a.log b.log), (Zcm (n : Nat) (n' : Nat))])) ?_
  refine Zef (Zd8 [[], [0], [], [2], [0, 1, 2, 3], [], [5], [5, 6], [], [8], [8, 9], [0, 1, 2, 3, 4, 5, 6, 7, 8, 9, 10], [0, 1, 2, 3, 4, 5, 6, 7, 8, 9, 10, 11], [0, 1, 2, 3, 4, 5, 6, 7, 8, 9, 10, 11, 12], [0, 1, 2, 3, 4, 5, 6, 7, 8, 9, 10, 11, 12, 13]] (by kernel_rfl) (by kernel_rfl)) ?_
  refine Zb (Zr (Zs ?_))
  rw [show Zmw a b = orL [Zcm a.log b.log, Zcm n n'] from by unfold Zmw; rw [hn, hn']]
  exact Zk (v := Iv (orL [(Zcm a.log b.log), (Zcm (n : Nat) (n' : Nat))])) rfl rfl rfl (by kernel_rfl) rfl
theorem Zwm (t : TailT) (n c : Nat) (hn : t.items.length = n) (hc : n ≤ c) (hb : n ≤ 1048576) : Z4 Tryd.prog G 29 [mxV ([Iv t.node, Iv t.log, Iv t.commit, slv 0 0 n c])] [rwR Zh t.items] (Iv t.commit) [rwR Zh t.items] := by
 refine Zbd (fn := Tryd.f29) (nt := 5) rfl rfl rfl rfl ?_
 refine Zae 1 (H' := [rwR Zh t.items, hole]) rfl ?_
 refine Ze (Zg (Zbs (v := mxV ([Iv t.node, Iv t.log, Iv t.commit, slv 0 0 n c])) (b := mxB 4 ([Iv t.node, Iv t.log, Iv t.commit, slv 0 0 n c])) (nid := 1) (H' := [rwR Zh t.items, mxB 4 ([Iv t.node, Iv t.log, Iv t.commit, slv 0 0 n c])]) (Zc (Iv 0) (Za (Zb (Ze (Zg (Zi (b := 1) (o := 0) (n := 2) (o' := 2) (Zm (p := pt 1 2) (v := Iv t.commit) (Zc (Iv t.commit) (Za (Zb (Zr (Zs ?_))))))))))))))
 exact Zk (v := Iv t.commit) rfl rfl rfl (by kernel_rfl) rfl
theorem Z3a (l : List Int) (n c : Nat) (hn : l.length = n) (hc : n ≤ c) (hb : n ≤ 1048576) (h0 : 0 < n) : Z4 Tryd.prog G 27 [slv 0 0 n c] [rwR Zd1 l] (Iv (Zjz l)) [rwR Zd1 l] := by
  refine Zbd (fn := Tryd.f27) (nt := 25) rfl rfl rfl rfl ?_
  refine Ze (Zg (Zc (Iv 0) (Za (Zb (Ze (Ze (Zg (Zd (slv 0 0 n c) (Zba (p := slv 0 0 n c) (v := Iv (n : Nat)) ?_)))))))))
  refine Zl (vx := Iv (n : Nat)) (vy := Iv 1) rfl rfl (.bool false) rfl rfl (Zct (by omega)) ?_
  refine Za (Zb (Zt rfl (Zx (Zb (Ze (Zg (Zd (slv 0 0 n c) ?_)))))))
  refine Zb1 (b := 0) (o := 0) (j := 0) (m := n) (c := c) (sz := 1) (i := 0) (k := .i64) rfl rfl rfl rfl rfl (by omega) (by omega) (by omega) ?_
  refine Zaj (p := pt 0 0) (v := Iv (l.getD 0 default)) rfl rfl rfl (Zk6 (m := 1) Zd1 (l := l) (i := 0) rfl rfl rfl rfl (by have := hn; omega) (by omega) rfl rfl) ?_
  refine Zc (Iv (l.getD 0 default)) (Za (Zb (Ze (Ze (Zg (Zc (Iv 1) (Za (Zb (Z7 ?_)))))))))
  refine Zb2 (fun x : Nat × Int => match x with | (i, m) => [slv 0 0 n c, dead, Iv 0, Iv m, Iv (i : Nat), slv 0 0 n c, Iv (n : Nat), .bool false, dead, slv 0 0 n c, pt 0 0, Iv (l.getD 0 default)]) (fun x : Nat × Int => match x with | (i, m) => [rwR Zd1 l]) (fun x : Nat × Int => match x with | (i, m) => (l.drop i).foldl max m = Zjz l ∧ i ≤ n) (fun x : Nat × Int => match x with | (i, m) => n - i) (1, (l.getD 0 default)) ⟨Zt8 (by omega), by omega⟩ ?_ ?_
  · refine Zah (n := 1) rfl ?_ (by kernel_rfl) (by kernel_rfl)
    repeat (first | exact trivial | refine ⟨.inl rfl, ?_⟩ | refine ⟨.inr ⟨rfl, rfl⟩, ?_⟩ | refine ⟨.inr ⟨congrArg (Value.int .i64) (by first | omega | (dsimp only; omega)), rfl⟩, ?_⟩)
  rintro ⟨i, m⟩ ⟨hR, hi⟩
  dsimp only at *
  refine Ze (Ze (Zg (Zd (Iv (i : Nat)) (Zd (slv 0 0 n c) (Zba (p := slv 0 0 n c) (v := Iv (n : Nat)) ?_)))))
  by_cases h1 : (i : Nat) < (n : Nat)
  refine Zl (vx := Iv (i : Nat)) (vy := Iv (n : Nat)) rfl rfl (.bool true) rfl rfl (Zc0 (by omega)) ?_
  refine Za (Zb (Zy rfl (Zx (Zb (Ze (Z7 (Zg (Zd (Iv m) (Zd (slv 0 0 n c) (Zd (Iv (i : Nat)) ?_))))))))))
  refine Zb1 (b := 0) (o := 0) (j := i) (m := n) (c := c) (sz := 1) (i := (i : Nat)) (k := .i64) rfl rfl rfl rfl rfl (by omega) (by omega) (by omega) ?_
  refine Zaj (p := pt 0 i) (v := Iv (l.getD i default)) rfl rfl rfl (Zk6 (m := 1) Zd1 (l := l) (i := i) rfl rfl rfl rfl (by have := hn; omega) (by omega) rfl rfl) ?_
  refine Z4d (vs := [Iv m, Iv (l.getD i default)]) (v := Iv (max m (l.getD i default))) rfl rfl rfl Z33 ?_
  refine Zc (Iv (max m (l.getD i default))) (Za (Z8 (Zb (Zg (Zd (Iv (i : Nat)) ?_)))))
  refine Zl (vx := Iv (i : Nat)) (vy := Iv 1) rfl rfl (Iv ((i : Nat) + 1)) rfl rfl (Zan (by omega) (by omega) (by omega)) ?_
  refine Zc (Iv ((i : Nat) + 1)) (Za ?_)
  refine Zak ⟨((i + 1), (max m (l.getD i default))), ⟨by rw [← hR]; exact (Zw6 (by omega) (by omega)).symm, by dsimp only; omega⟩, by show n - (i + 1) < n - i; omega, ?_⟩
  refine Zah (n := 1) rfl ?_ (by kernel_rfl) (by kernel_rfl)
  repeat (first | exact trivial | refine ⟨.inl rfl, ?_⟩ | refine ⟨.inr ⟨rfl, rfl⟩, ?_⟩ | refine ⟨.inr ⟨congrArg (Value.int .i64) (by first | omega | (dsimp only; omega)), rfl⟩, ?_⟩)
  refine Zl (vx := Iv (i : Nat)) (vy := Iv (n : Nat)) rfl rfl (.bool false) rfl rfl (Zct (by omega)) ?_
  refine Za (Zb (Zt rfl (Zbp (Zau (Za2 (Za1 rfl (Zb (Ze (Zg (Zd (Iv m) (Zc (Iv m) (Za (Zb (Zr (Zs ?_)))))))))))))))
  rw [show Zjz l = m from by rw [← hR, List.drop_of_length_le (by omega)]; rfl]
  exact Zk (v := Iv m) rfl rfl rfl (by kernel_rfl) rfl
end Go.Flat
