/- Walks. -/
import Derived.Test.YtlnggiomppkjmaaDoorN3
import Derived.Test.YtlnggiomppkjmaaDoorQ2
import Derived.Test.YtlnggiomppkjmaaDoorFlatL
set_option linter.unusedVariables false
set_option linter.unusedSimpArgs false
set_option maxRecDepth 20000
namespace Go.Flat
open Go.Proofs
variable {G : Glob}
structure TailT where
  node : Int
  log : Int
  commit : Int
  items : List Item
instance : Inhabited TailT := ⟨⟨0, 0, 0, []⟩⟩
def Zhz (a b : TailT) : Bool := decide (a.node = b.node ∧ a.log = b.log ∧ a.commit = b.commit) && Ze9 a.items b.items
theorem Z0t {a b : TailT} (h1 : a.node = b.node) (h2 : a.log = b.log) (h3 : a.commit = b.commit) : Zhz a b = Ze9 a.items b.items := by
 unfold Zhz; rw [decide_eq_true ⟨h1, h2, h3⟩, Bool.true_and]
theorem Zo1 {a b : TailT} (h : a.node = b.node → a.log = b.log → a.commit = b.commit → False) : Zhz a b = false := by
 unfold Zhz; rw [decide_eq_false (fun q => h q.1 q.2.1 q.2.2)]; rfl
def Zms (t : TailT) : Prop := 1 ≤ t.node ∧ t.node ≤ 3 ∧ Zmr ⟨t.log, t.log, t.items, []⟩ ∧ 0 ≤ t.commit ∧ t.commit ≤ t.items.length
instance (t : TailT) : Decidable (Zms t) := inferInstanceAs (Decidable (_ ∧ _))
def Zgi (t : TailT) : Int := if Zms t then 0 else 150
theorem Zr8 {t : TailT} (h : Zgi t = 0) : Zms t := by
 unfold Zgi at h
 split at h
 ·assumption
 ·omega
theorem Zr7 {t : TailT} (h : ¬ Zgi t = 0) : ¬ Zms t := fun q => h (if_pos q)
def Zfz (kk : Nat → BitVec 32) (region epoch node : Int) (t : TailT) : Claim × Int :=
  if Zms t then (if Zdd ⟨region, epoch, node, t.items.length, (Zbf kk t.items t.items.length).1⟩ = 0 then (⟨region, epoch, node, t.items.length, (Zbf kk t.items t.items.length).1⟩, 0) else (⟨0, 0, 0, 0, dz⟩, 150)) else (⟨0, 0, 0, 0, dz⟩, 150)
section
variable {kk : Nat → BitVec 32} {region epoch node : Int} {t : TailT} {n : Nat}
theorem Zpv (hn : t.items.length = n) (h : Zms t) (hc : Zdd ⟨region, epoch, node, n, (Zbf kk t.items n).1⟩ = 0) : Zfz kk region epoch node t = (⟨region, epoch, node, n, (Zbf kk t.items n).1⟩, 0) := by
 subst hn; unfold Zfz; rw [if_pos h, if_pos hc]
theorem Zua (h : ¬ Zgi t = 0) : Zfz kk region epoch node t = (⟨0, 0, 0, 0, dz⟩, 150) := by
 unfold Zfz; rw [if_neg (Zr7 h)]
theorem Zmz (h : ¬ Zgi t = 0) : Zfz kk region epoch node t = (⟨0, 0, 0, 0, dz⟩, Zgi t) := by
 rw [Zua h]
 have := Zr7 h
 unfold Zgi; rw [if_neg this]
theorem Zpu (hn : t.items.length = n) (h : Zgi t = 0) (hc : ¬ Zdd ⟨region, epoch, node, n, (Zbf kk t.items n).1⟩ = 0) : Zfz kk region epoch node t = (⟨0, 0, 0, 0, dz⟩, 150) := by
 subst hn; unfold Zfz; rw [if_pos (Zr8 h), if_neg hc]
end
def Z3k (t : TailT) (c : Claim) : List Item := t.items ++ [(⟨c.epoch, ⟨3, 0, 0, ⟨#[]⟩, ⟨⟨0, 0, 0, dz, 0⟩, 0, dz⟩, c⟩⟩ : Item)]
def Zkz (a b : TailT) : Int := orL [Zcr a.log b.log, Zcr a.items.length b.items.length]
def Zjj : List Int → Int
  | [] => 0
  | x :: l => l.foldl max x
theorem Zuo {l : List Int} (h : 0 < l.length) : (l.drop 1).foldl max (l.getD 0 default) = Zjj l := by
 cases l with
 | nil => simp at h
 | cons x l => rfl
theorem Zxm {l : List Int} {i : Nat} {m q : Int} (hi : i < l.length) (hq : q = max m (l.getD i default)) : (l.drop i).foldl max m = (l.drop (i + 1)).foldl max q := by
 subst hq
 rw [List.drop_eq_getElem_cons hi, List.foldl_cons, List.getD_eq_getElem?_getD, List.getElem?_eq_getElem hi]; rfl
theorem Zre (t : TailT) (n c : Nat) (hn : t.items.length = n) (hc : n ≤ c) (hb : n ≤ 1048576) : Z6 Tryd.prog G 30 [mxV ([Iv t.node, Iv t.log, Iv t.commit, slv 0 0 n c])] [rwR Zi t.items] (mxV ([Iv t.node, Iv t.log, Iv t.commit, slv 1 0 n n])) [rwR Zi t.items, rwB Zi t.items] := by
  refine Zbh (fn := Tryd.f30) (nt := 8) rfl rfl rfl rfl ?_
  refine Zaf 3 (H' := [rwR Zi t.items, hole, hole, hole]) rfl ?_
  refine Zf (Zg (Zb7 (v := mxV ([Iv t.node, Iv t.log, Iv t.commit, slv 0 0 n c])) (b := mxB 4 ([Iv t.node, Iv t.log, Iv t.commit, slv 0 0 n c])) (nid := 1) (H' := [rwR Zi t.items, mxB 4 ([Iv t.node, Iv t.log, Iv t.commit, slv 0 0 n c]), hole, hole]) (Za9 (b := mxB 4 ([Iv 0, Iv 0, Iv 0, .slice none 0 0])) (nid := 2) (H' := [rwR Zi t.items, mxB 4 ([Iv t.node, Iv t.log, Iv t.commit, slv 0 0 n c]), mxB 4 ([Iv 0, Iv 0, Iv 0, .slice none 0 0]), hole]) (Za (Zc (Zf (Zg (Zh (b := 1) (o := 0) (n := 3) (o' := 3) (Zn (p := pt 1 3) (v := slv 0 0 n c) ?_)))))))))
  refine Z5 (e := [some (0, 0)]) (nid := 3) (Zwo (G := G) t.items n c hn (by omega) (by omega)) (vals := [slv 0 0 n c]) (v := slv 3 0 n n) (H' := [rwR Zi t.items, mxB 4 ([Iv t.node, Iv t.log, Iv t.commit, slv 0 0 n c]), mxB 4 ([Iv 0, Iv 0, Iv 0, .slice none 0 0]), rwB Zi t.items]) rfl rfl rfl rfl rfl rfl rfl ⟨⟨⟨rfl, rfl, rfl, by first | omega | exact Nat.le_refl _, by first | omega | exact Nat.le_refl _⟩, trivial⟩, ⟨(Zbr rfl), trivial⟩, rfl, rfl, rfl⟩ (by kernel_rfl) (by kernel_rfl) ?_
  refine Zh (b := 1) (o := 0) (n := 3) (o' := 3) (Zab (p := pt 1 3) (v := slv 3 0 n n) (b := 1) (blk := mxB 4 ([Iv t.node, Iv t.log, Iv t.commit, slv 3 0 n n])) (H' := [rwR Zi t.items, mxB 4 ([Iv t.node, Iv t.log, Iv t.commit, slv 3 0 n n]), mxB 4 ([Iv 0, Iv 0, Iv 0, .slice none 0 0]), rwB Zi t.items]) (Za (Zc (Zf (Zg (Zn (p := pt 1 0) (v := mxV ([Iv t.node, Iv t.log, Iv t.commit, slv 3 0 n n])) (Zab (p := pt 2 0) (v := mxV ([Iv t.node, Iv t.log, Iv t.commit, slv 3 0 n n])) (b := 2) (blk := mxB 4 ([Iv t.node, Iv t.log, Iv t.commit, slv 3 0 n n])) (H' := [rwR Zi t.items, mxB 4 ([Iv t.node, Iv t.log, Iv t.commit, slv 3 0 n n]), mxB 4 ([Iv t.node, Iv t.log, Iv t.commit, slv 3 0 n n]), rwB Zi t.items]) (Za (Zc (Zr (Zt ?_)))))))))))
  exact Zbc [0, 3] (v := mxV ([Iv t.node, Iv t.log, Iv t.commit, slv 3 0 n n])) rfl (by kernel_rfl) rfl rfl (by decide) (by simp [Zbe, rwB, rwR, Zi]) (Zce (by kernel_rfl) ⟨⟨rfl, rfl⟩, ⟨rfl, rfl⟩, ⟨rfl, rfl⟩, ⟨rfl, rfl, rfl, by first | omega | exact Nat.le_refl _ | exact Nat.zero_le _ | (dsimp only; omega), by first | omega | exact Nat.le_refl _ | exact Nat.zero_le _ | (dsimp only; omega)⟩, trivial⟩)
theorem Zth (a : TailT) (n c : Nat) (hn : a.items.length = n) (hc : n ≤ c) (hb : n ≤ 1048576) (b : TailT) (n' c' : Nat) (hn' : b.items.length = n') (hc' : n' ≤ c') (hb' : n' ≤ 1048576) : Z6 Tryd.prog G 12 [mxV ([Iv a.node, Iv a.log, Iv a.commit, slv 0 0 n c]), mxV ([Iv b.node, Iv b.log, Iv b.commit, slv 1 0 n' c'])] [rwR Zi a.items, rwR Zi b.items] (.bool (Zhz a b)) [rwR Zi a.items, rwR Zi b.items] := by
  refine Zbh (fn := Tryd.f12) (nt := 31) rfl rfl rfl rfl ?_
  refine Zaf 2 (H' := [rwR Zi a.items, rwR Zi b.items, hole, hole]) rfl ?_
  refine Zf (Zg (Zb7 (v := mxV ([Iv a.node, Iv a.log, Iv a.commit, slv 0 0 n c])) (b := mxB 4 ([Iv a.node, Iv a.log, Iv a.commit, slv 0 0 n c])) (nid := 2) (H' := [rwR Zi a.items, rwR Zi b.items, mxB 4 ([Iv a.node, Iv a.log, Iv a.commit, slv 0 0 n c]), hole]) (Zb7 (v := mxV ([Iv b.node, Iv b.log, Iv b.commit, slv 1 0 n' c'])) (b := mxB 4 ([Iv b.node, Iv b.log, Iv b.commit, slv 1 0 n' c'])) (nid := 3) (H' := [rwR Zi a.items, rwR Zi b.items, mxB 4 ([Iv a.node, Iv a.log, Iv a.commit, slv 0 0 n c]), mxB 4 ([Iv b.node, Iv b.log, Iv b.commit, slv 1 0 n' c'])]) (Zb (.bool false) (Za (Zc (Zf (Zg (Zh (b := 2) (o := 0) (n := 0) (o' := 0) (Zn (p := pt 2 0) (v := Iv a.node) (Zh (b := 3) (o := 0) (n := 0) (o' := 0) (Zn (p := pt 3 0) (v := Iv b.node) ?_))))))))))))
  by_cases h1 : a.node = b.node
  refine Zl (vx := Iv a.node) (vy := Iv b.node) rfl rfl (.bool true) rfl rfl (Zdp (by omega)) ?_
  refine Zd (.bool true) (Zh (b := 2) (o := 0) (n := 1) (o' := 1) (Zn (p := pt 2 1) (v := Iv a.log) (Zh (b := 3) (o := 0) (n := 1) (o' := 1) (Zn (p := pt 3 1) (v := Iv b.log) ?_))))
  by_cases h2 : a.log = b.log
  refine Zl (vx := Iv a.log) (vy := Iv b.log) rfl rfl (.bool true) rfl rfl (Zdp (by omega)) ?_
  refine Zk (.bool true) (Zd (.bool true) (Zh (b := 2) (o := 0) (n := 2) (o' := 2) (Zn (p := pt 2 2) (v := Iv a.commit) (Zh (b := 3) (o := 0) (n := 2) (o' := 2) (Zn (p := pt 3 2) (v := Iv b.commit) ?_)))))
  by_cases h3 : a.commit = b.commit
  refine Zl (vx := Iv a.commit) (vy := Iv b.commit) rfl rfl (.bool true) rfl rfl (Zdp (by omega)) ?_
  refine Zk (.bool true) (Zd (.bool true) (Zh (b := 2) (o := 0) (n := 3) (o' := 3) (Zn (p := pt 2 3) (v := slv 0 0 n c) (Zh (b := 3) (o := 0) (n := 3) (o' := 3) (Zn (p := pt 3 3) (v := slv 1 0 n' c') ?_)))))
  refine Z5 (e := [some (0, 0), some (1, 0)]) (nid := 0) (Zuy (G := G) a.items b.items n c n' c' hn hn' (by omega) (by omega) (by omega) (by omega)) (vals := [slv 0 0 n c, slv 1 0 n' c']) (v := .bool (Ze9 a.items b.items)) (H' := [rwR Zi a.items, rwR Zi b.items, mxB 4 ([Iv a.node, Iv a.log, Iv a.commit, slv 0 0 n c]), mxB 4 ([Iv b.node, Iv b.log, Iv b.commit, slv 1 0 n' c'])]) rfl rfl rfl rfl rfl rfl rfl ⟨⟨⟨rfl, rfl, rfl, by first | omega | exact Nat.le_refl _, by first | omega | exact Nat.le_refl _⟩, ⟨rfl, rfl, rfl, by first | omega | exact Nat.le_refl _, by first | omega | exact Nat.le_refl _⟩, trivial⟩, ⟨(Zbr rfl), (Zbr rfl), trivial⟩, rfl, rfl, rfl⟩ rfl (by kernel_rfl) ?_
  refine Zk (.bool (Ze9 a.items b.items)) (Zb (.bool (Ze9 a.items b.items)) (Za (Zc (Zr (Zt ?_)))))
  rw [show Zhz a b = Ze9 a.items b.items from Z0t (by omega) (by omega) (by omega)]
  exact Zm (v := .bool (Ze9 a.items b.items)) rfl rfl rfl (by kernel_rfl) rfl
  refine Zl (vx := Iv a.commit) (vy := Iv b.commit) rfl rfl (.bool false) rfl rfl (Zef (by omega)) ?_
  refine Zk (.bool false) (Zd (.bool false) (Ze (Ze (Ze (Ze (Ze (Zk (.bool false) (Zb (.bool false) (Za (Zc (Zr (Zt ?_))))))))))))
  rw [show Zhz a b = false from Zo1 (fun q1 q2 q3 => by omega)]
  exact Zm (v := .bool false) rfl rfl rfl (by kernel_rfl) rfl
  refine Zl (vx := Iv a.log) (vy := Iv b.log) rfl rfl (.bool false) rfl rfl (Zef (by omega)) ?_
  refine Zk (.bool false) (Zd (.bool false) (Ze (Ze (Ze (Ze (Ze (Zk (.bool false) (Zd (.bool false) (Ze (Ze (Ze (Ze (Ze (Zk (.bool false) (Zb (.bool false) (Za (Zc (Zr (Zt ?_)))))))))))))))))))
  rw [show Zhz a b = false from Zo1 (fun q1 q2 q3 => by omega)]
  exact Zm (v := .bool false) rfl rfl rfl (by kernel_rfl) rfl
  refine Zl (vx := Iv a.node) (vy := Iv b.node) rfl rfl (.bool false) rfl rfl (Zef (by omega)) ?_
  refine Zd (.bool false) (Ze (Ze (Ze (Ze (Ze (Zk (.bool false) (Zd (.bool false) (Ze (Ze (Ze (Ze (Ze (Zk (.bool false) (Zd (.bool false) (Ze (Ze (Ze (Ze (Ze (Zk (.bool false) (Zb (.bool false) (Za (Zc (Zr (Zt ?_)))))))))))))))))))))))))
  rw [show Zhz a b = false from Zo1 (fun q1 q2 q3 => by omega)]
  exact Zm (v := .bool false) rfl rfl rfl (by kernel_rfl) rfl
abbrev Y4 (t : TailT) (n : Nat) (c : Nat) : Blk := mxB 4 ([Iv t.node, Iv t.log, Iv t.commit, slv 0 0 n c])
theorem Zl5 (t : TailT) (n c : Nat) (hn : t.items.length = n) (hc : n ≤ c) (hb : n ≤ 1048576) : Z6 Tryd.prog G 19 [mxV ([Iv t.node, Iv t.log, Iv t.commit, slv 0 0 n c])] [rwR Zi t.items] (Iv (Zgi t)) [rwR Zi t.items] := by
  refine Zbh (fn := Tryd.f19) (nt := 37) rfl rfl rfl rfl ?_
  refine Zaf 2 (H' := [rwR Zi t.items, hole, hole]) rfl ?_
  refine Zf (Zg (Zb7 (v := mxV ([Iv t.node, Iv t.log, Iv t.commit, slv 0 0 n c])) (b := mxB 4 ([Iv t.node, Iv t.log, Iv t.commit, slv 0 0 n c])) (nid := 1) (H' := [rwR Zi t.items, Y4 t n c, hole]) (Zb (Iv 0) (Za (Zc (Zf (Zg (Zh (b := 1) (o := 0) (n := 1) (o' := 1) (Zn (p := pt 1 1) (v := Iv t.log) (Zh (b := 1) (o := 0) (n := 1) (o' := 1) (Zn (p := pt 1 1) (v := Iv t.log) (Zh (b := 1) (o := 0) (n := 3) (o' := 3) (Zn (p := pt 1 3) (v := slv 0 0 n c) ?_)))))))))))))
  refine Zdb (vs := [(0, Iv t.log), (1, Iv t.log), (2, slv 0 0 n c)]) (v := mxV ([Iv t.log, Iv t.log, slv 0 0 n c, .slice none 0 0])) rfl rfl rfl (by kernel_rfl) ?_
  refine Za9 (b := mxB 4 ([Iv 0, Iv 0, .slice none 0 0, .slice none 0 0])) (nid := 2) (H' := [rwR Zi t.items, Y4 t n c, mxB 4 ([Iv 0, Iv 0, .slice none 0 0, .slice none 0 0])]) (Zab (p := pt 2 0) (v := mxV ([Iv t.log, Iv t.log, slv 0 0 n c, .slice none 0 0])) (b := 2) (blk := mxB 4 ([Iv t.log, Iv t.log, slv 0 0 n c, .slice none 0 0])) (H' := [rwR Zi t.items, Y4 t n c, mxB 4 ([Iv t.log, Iv t.log, slv 0 0 n c, .slice none 0 0])]) (Za (Zc (Zf (Zf (Zg (Zh (b := 1) (o := 0) (n := 0) (o' := 0) (Zn (p := pt 1 0) (v := Iv t.node) ?_))))))))
  by_cases h1 : t.node < 1
  refine Zl (vx := Iv t.node) (vy := Iv 1) rfl rfl (.bool true) rfl rfl (Zck (by omega)) ?_
  refine Zd (.bool true) (Ze (Ze (Ze (Zk (.bool true) (Zd (.bool true) (Ze (Ze (Ze (Zk (.bool true) (Zd (.bool true) (Ze (Ze (Ze (Zk (.bool true) (Zd (.bool true) (Ze (Ze (Ze (Ze (Ze (Ze (Zk (.bool true) ?_))))))))))))))))))))))
  refine Za (Zc (Zy rfl (Zf (Zg (Zb (Iv 150) (Za (Zc (Zr (Z2 (Zt ?_))))))))))
  rw [show Zgi t = 150 from if_neg (fun q => by obtain ⟨q1, q2, q3, q4, q5⟩ := q; rw [hn] at q5; first | omega | exact Zi9 (by omega) q3)]
  exact Zm (v := Iv 150) rfl rfl rfl (by kernel_rfl) rfl
  refine Zl (vx := Iv t.node) (vy := Iv 1) rfl rfl (.bool false) rfl rfl (Zcd (by omega)) ?_
  refine Zd (.bool false) (Zh (b := 1) (o := 0) (n := 0) (o' := 0) (Zn (p := pt 1 0) (v := Iv t.node) ?_))
  by_cases h2 : 3 < t.node
  refine Zl (vx := Iv t.node) (vy := Iv 3) rfl rfl (.bool true) rfl rfl (Zfs (by omega)) ?_
  refine Zk (.bool true) (Zd (.bool true) (Ze (Ze (Ze (Zk (.bool true) (Zd (.bool true) (Ze (Ze (Ze (Zk (.bool true) (Zd (.bool true) (Ze (Ze (Ze (Ze (Ze (Ze (Zk (.bool true) (Za (Zc (Zy rfl (Zf (Zg (Zb (Iv 150) ?_))))))))))))))))))))))))
  refine Za (Zc (Zr (Z2 (Zt ?_))))
  rw [show Zgi t = 150 from if_neg (fun q => by obtain ⟨q1, q2, q3, q4, q5⟩ := q; rw [hn] at q5; first | omega | exact Zi9 (by omega) q3)]
  exact Zm (v := Iv 150) rfl rfl rfl (by kernel_rfl) rfl
  refine Zl (vx := Iv t.node) (vy := Iv 3) rfl rfl (.bool false) rfl rfl (Zfr (by omega)) ?_
  refine Zk (.bool false) (Zd (.bool false) (Zn (p := pt 2 0) (v := mxV ([Iv t.log, Iv t.log, slv 0 0 n c, .slice none 0 0])) ?_))
  refine Z5 (e := [some (0, 0), none]) (nid := 0) (Zwp (G := G) (⟨t.log, t.log, t.items, []⟩ : Kept) n c 0 0 hn rfl (by omega) (by omega) (by omega) (by omega)) (vals := [mxV ([Iv t.log, Iv t.log, slv 0 0 n c, .slice none 0 0])]) (v := Iv (Zi4 (⟨t.log, t.log, t.items, []⟩ : Kept))) (H' := [rwR Zi t.items, Y4 t n c, mxB 4 ([Iv t.log, Iv t.log, slv 0 0 n c, .slice none 0 0])]) rfl rfl rfl rfl rfl rfl rfl ⟨⟨(Zce (by kernel_rfl) ⟨⟨rfl, rfl⟩, ⟨rfl, rfl⟩, ⟨rfl, rfl, rfl, by first | omega | exact Nat.le_refl _, by first | omega | exact Nat.le_refl _⟩, ⟨rfl, rfl, rfl, rfl⟩, trivial⟩), trivial⟩, ⟨(Zbr rfl), ⟨rfl, rfl, by first | exact Nat.succ_pos _ | (show 0 < _; decide)⟩, trivial⟩, rfl, rfl, rfl⟩ rfl (by kernel_rfl) ?_
  by_cases h3 : (Zi4 (⟨t.log, t.log, t.items, []⟩ : Kept)) ≠ 0
  refine Zl (vx := Iv (Zi4 (⟨t.log, t.log, t.items, []⟩ : Kept))) (vy := Iv 0) rfl rfl (.bool true) rfl rfl (Zgf (by omega)) ?_
  refine Zk (.bool true) (Zd (.bool true) (Ze (Ze (Ze (Zk (.bool true) (Zd (.bool true) (Ze (Ze (Ze (Ze (Ze (Ze (Zk (.bool true) (Za (Zc (Zy rfl (Zf (Zg (Zb (Iv 150) (Za (Zc (Zr (Z2 (Zt ?_))))))))))))))))))))))))
  rw [show Zgi t = 150 from if_neg (fun q => by obtain ⟨q1, q2, q3, q4, q5⟩ := q; rw [hn] at q5; first | omega | exact Zi9 (by omega) q3)]
  exact Zm (v := Iv 150) rfl rfl rfl (by kernel_rfl) rfl
  refine Zl (vx := Iv (Zi4 (⟨t.log, t.log, t.items, []⟩ : Kept))) (vy := Iv 0) rfl rfl (.bool false) rfl rfl (Zfw (by omega)) ?_
  refine Zk (.bool false) (Zd (.bool false) (Zh (b := 1) (o := 0) (n := 2) (o' := 2) (Zn (p := pt 1 2) (v := Iv t.commit) ?_)))
  by_cases h4 : t.commit < 0
  refine Zl (vx := Iv t.commit) (vy := Iv 0) rfl rfl (.bool true) rfl rfl (Zck (by omega)) ?_
  refine Zk (.bool true) (Zd (.bool true) (Ze (Ze (Ze (Ze (Ze (Ze (Zk (.bool true) (Za (Zc (Zy rfl (Zf (Zg (Zb (Iv 150) (Za (Zc (Zr (Z2 (Zt ?_)))))))))))))))))))
  rw [show Zgi t = 150 from if_neg (fun q => by obtain ⟨q1, q2, q3, q4, q5⟩ := q; rw [hn] at q5; first | omega | exact Zi9 (by omega) q3)]
  exact Zm (v := Iv 150) rfl rfl rfl (by kernel_rfl) rfl
  refine Zl (vx := Iv t.commit) (vy := Iv 0) rfl rfl (.bool false) rfl rfl (Zcd (by omega)) ?_
  refine Zk (.bool false) (Zd (.bool false) (Zh (b := 1) (o := 0) (n := 2) (o' := 2) (Zn (p := pt 1 2) (v := Iv t.commit) (Zh (b := 1) (o := 0) (n := 3) (o' := 3) (Zn (p := pt 1 3) (v := slv 0 0 n c) (Zaw (p := slv 0 0 n c) (v := Iv (n : Nat)) ?_))))))
  by_cases h5 : (n : Nat) < t.commit
  refine Zl (vx := Iv t.commit) (vy := Iv (n : Nat)) rfl rfl (.bool true) rfl rfl (Zfs (by omega)) ?_
  refine Zk (.bool true) (Za (Zc (Zy rfl (Zf (Zg (Zb (Iv 150) (Za (Zc (Zr (Z2 (Zt ?_)))))))))))
  rw [show Zgi t = 150 from if_neg (fun q => by obtain ⟨q1, q2, q3, q4, q5⟩ := q; rw [hn] at q5; first | omega | exact Zi9 (by omega) q3)]
  exact Zm (v := Iv 150) rfl rfl rfl (by kernel_rfl) rfl
  refine Zl (vx := Iv t.commit) (vy := Iv (n : Nat)) rfl rfl (.bool false) rfl rfl (Zfr (by omega)) ?_
  refine Zk (.bool false) (Za (Zc (Zu rfl (Zz (Zc (Zf (Zg (Zb (Iv 0) (Za (Zc (Zr (Zt ?_))))))))))))
  rw [show Zgi t = 0 from if_pos ⟨by omega, by omega, Zyw (by omega), by omega, by rw [hn]; omega⟩]
  exact Zm (v := Iv 0) rfl rfl rfl (by kernel_rfl) rfl
abbrev Y5 (t : TailT) (n : Nat) (c : Nat) : Blk := mxB 4 ([Iv t.node, Iv t.log, Iv t.commit, slv 0 0 n c])
abbrev Y6  : Blk := bxB 36 (Zat (⟨0, 0, 0, 0, dz⟩ : Claim))
abbrev Y7 (kk : Nat → BitVec 32) (region : Int) (epoch : Int) (node : Int) (t : TailT) (n : Nat) : Blk := bxB 36 (Zat (⟨region, epoch, node, (n : Nat), (Zbf kk t.items (n : Nat)).1⟩ : Claim))
theorem Zwq (kk : Nat → BitVec 32) (hG : G 0 = some (Zah w32 64 kk)) (hG1 : G 2 = some (Zah u8N 64 dbF)) (region epoch node : Int) (t : TailT) (n c : Nat) (hn : t.items.length = n) (hc : n ≤ c) (hb : n ≤ 1048576) : Z6 Tryd.prog G 17 [Iv region, Iv epoch, Iv node, mxV ([Iv t.node, Iv t.log, Iv t.commit, slv 0 0 n c])] [rwR Zi t.items] (.tuple #[Zai (Zfz kk region epoch node t).1, Iv (Zfz kk region epoch node t).2]) [rwR Zi t.items] := by
  refine Zbh (fn := Tryd.f17) (nt := 42) rfl rfl rfl rfl ?_
  refine Zaf 4 (H' := [rwR Zi t.items, hole, hole, hole, hole]) rfl ?_
  refine Zf (Zg (Zb7 (v := mxV ([Iv t.node, Iv t.log, Iv t.commit, slv 0 0 n c])) (b := mxB 4 ([Iv t.node, Iv t.log, Iv t.commit, slv 0 0 n c])) (nid := 1) (H' := [rwR Zi t.items, Y5 t n c, hole, hole, hole]) (Za9 (b := bxB 36 (Zat (⟨0, 0, 0, 0, dz⟩ : Claim))) (nid := 2) (H' := [rwR Zi t.items, Y5 t n c, Y6, hole, hole]) (Zb (Iv 0) (Za (Zc (Zf (Zf (Zg (Zn (p := pt 1 0) (v := mxV ([Iv t.node, Iv t.log, Iv t.commit, slv 0 0 n c])) ?_))))))))))
  refine Z5 (e := [some (0, 0)]) (nid := 0) (Zl5 (G := G) t n c hn (by omega) (by omega)) (vals := [mxV ([Iv t.node, Iv t.log, Iv t.commit, slv 0 0 n c])]) (v := Iv (Zgi t)) (H' := [rwR Zi t.items, Y5 t n c, Y6, hole, hole]) rfl rfl rfl rfl rfl rfl rfl ⟨⟨(Zce (by kernel_rfl) ⟨⟨rfl, rfl⟩, ⟨rfl, rfl⟩, ⟨rfl, rfl⟩, ⟨rfl, rfl, rfl, by first | omega | exact Nat.le_refl _, by first | omega | exact Nat.le_refl _⟩, trivial⟩), trivial⟩, ⟨(Zbr rfl), trivial⟩, rfl, rfl, rfl⟩ rfl (by kernel_rfl) ?_
  refine Zb (Iv (Zgi t)) (Za (Zc (Zf (Zg (Zd (Iv (Zgi t)) ?_)))))
  by_cases h1 : (Zgi t) ≠ 0
  refine Zl (vx := Iv (Zgi t)) (vy := Iv 0) rfl rfl (.bool true) rfl rfl (Zgf (by omega)) ?_
  refine Za (Zc (Zy rfl (Zf (Zg ?_))))
  refine Zdb (vs := []) (v := Zai (⟨0, 0, 0, 0, dz⟩ : Claim)) rfl rfl rfl (by kernel_rfl) ?_
  refine Zd (Iv (Zgi t)) (Zab (p := pt 2 0) (v := Zai (⟨0, 0, 0, 0, dz⟩ : Claim)) (b := 2) (blk := bxB 36 (Zat (⟨0, 0, 0, 0, dz⟩ : Claim))) (H' := [rwR Zi t.items, Y5 t n c, Y6, hole, hole]) (Zb (Iv (Zgi t)) (Za (Zc (Zr (Z2 (Zt ?_)))))))
  rw [show Zfz kk region epoch node t = (⟨0, 0, 0, 0, dz⟩, (Zgi t)) from by first | exact Zmz (by omega) | exact Zpu hn (by omega) (by omega)]
  exact Zm (v := .tuple #[Zai (⟨0, 0, 0, 0, dz⟩ : Claim), Iv (Zgi t)]) (by kernel_rfl) rfl rfl (by simp [Zbe, rwB, rwR, Zi]) ⟨(Zt5 (by kernel_rfl) rfl), rfl, trivial⟩
  refine Zl (vx := Iv (Zgi t)) (vy := Iv 0) rfl rfl (.bool false) rfl rfl (Zfw (by omega)) ?_
  refine Za (Zc (Zu rfl (Zz (Zc (Zf (Zg (Zh (b := 1) (o := 0) (n := 3) (o' := 3) (Zn (p := pt 1 3) (v := slv 0 0 n c) (Zaw (p := slv 0 0 n c) (v := Iv (n : Nat)) (Zb (Iv (n : Nat)) (Za (Zc (Zf (Zg (Zh (b := 1) (o := 0) (n := 3) (o' := 3) (Zn (p := pt 1 3) (v := slv 0 0 n c) (Zd (Iv (n : Nat)) ?_)))))))))))))))))
  refine Z5 (e := [some (0, 0)]) (nid := 0) (Zyc (G := G) kk hG hG1 t.items n c hn (by omega) (by omega) (n : Nat)) (vals := [slv 0 0 n c, Iv (n : Nat)]) (v := .tuple #[dgV ((Zbf kk t.items (n : Nat)).1), Iv ((Zbf kk t.items (n : Nat)).2)]) (H' := [rwR Zi t.items, Y5 t n c, Y6, hole, hole]) rfl rfl rfl rfl rfl rfl rfl ⟨⟨⟨rfl, rfl, rfl, by first | omega | exact Nat.le_refl _, by first | omega | exact Nat.le_refl _⟩, rfl, trivial⟩, ⟨(Zbr rfl), trivial⟩, rfl, rfl, rfl⟩ (by kernel_rfl) (by kernel_rfl) ?_
  refine Zd (.tuple #[dgV ((Zbf kk t.items (n : Nat)).1), Iv ((Zbf kk t.items (n : Nat)).2)]) (Z1 (vs := #[dgV ((Zbf kk t.items (n : Nat)).1), Iv ((Zbf kk t.items (n : Nat)).2)]) (v := dgV ((Zbf kk t.items (n : Nat)).1)) (Z1 (vs := #[dgV ((Zbf kk t.items (n : Nat)).1), Iv ((Zbf kk t.items (n : Nat)).2)]) (v := Iv ((Zbf kk t.items (n : Nat)).2)) (Za9 (b := dgB dz) (nid := 3) (H' := [rwR Zi t.items, Y5 t n c, Y6, dgB dz, hole]) (Zab (p := pt 3 0) (v := dgV ((Zbf kk t.items (n : Nat)).1)) (b := 3) (blk := dgB ((Zbf kk t.items (n : Nat)).1)) (H' := [rwR Zi t.items, Y5 t n c, Y6, dgB ((Zbf kk t.items (n : Nat)).1), hole]) (Zb (Iv ((Zbf kk t.items (n : Nat)).2)) (Za (Zc (Zf (Zg (Zd (Iv region) (Zd (Iv epoch) (Zd (Iv node) (Zd (Iv (n : Nat)) (Zn (p := pt 3 0) (v := dgV ((Zbf kk t.items (n : Nat)).1)) ?_))))))))))))))
  refine Zdb (vs := [(0, Iv region), (1, Iv epoch), (2, Iv node), (3, Iv (n : Nat)), (4, dgV ((Zbf kk t.items (n : Nat)).1))]) (v := Zai (⟨region, epoch, node, (n : Nat), (Zbf kk t.items (n : Nat)).1⟩ : Claim)) rfl rfl rfl (by kernel_rfl) ?_
  refine Za9 (b := bxB 36 (Zat (⟨0, 0, 0, 0, dz⟩ : Claim))) (nid := 4) (H' := [rwR Zi t.items, Y5 t n c, Y6, dgB ((Zbf kk t.items (n : Nat)).1), Y6]) (Zab (p := pt 4 0) (v := Zai (⟨region, epoch, node, (n : Nat), (Zbf kk t.items (n : Nat)).1⟩ : Claim)) (b := 4) (blk := bxB 36 (Zat (⟨region, epoch, node, (n : Nat), (Zbf kk t.items (n : Nat)).1⟩ : Claim))) (H' := [rwR Zi t.items, Y5 t n c, Y6, dgB ((Zbf kk t.items (n : Nat)).1), Y7 kk region epoch node t n]) (Za (Zc (Zf (Zf (Zg (Zn (p := pt 4 0) (v := Zai (⟨region, epoch, node, (n : Nat), (Zbf kk t.items (n : Nat)).1⟩ : Claim)) ?_)))))))
  refine Zs (Zf4 (G := G) (⟨region, epoch, node, (n : Nat), (Zbf kk t.items (n : Nat)).1⟩ : Claim)) (vals := [Zai (⟨region, epoch, node, (n : Nat), (Zbf kk t.items (n : Nat)).1⟩ : Claim)]) (res' := Iv (Zdd (⟨region, epoch, node, (n : Nat), (Zbf kk t.items (n : Nat)).1⟩ : Claim))) rfl rfl rfl rfl rfl rfl ?_
  by_cases h2 : (Zdd (⟨region, epoch, node, (n : Nat), (Zbf kk t.items (n : Nat)).1⟩ : Claim)) ≠ 0
  refine Zl (vx := Iv (Zdd (⟨region, epoch, node, (n : Nat), (Zbf kk t.items (n : Nat)).1⟩ : Claim))) (vy := Iv 0) rfl rfl (.bool true) rfl rfl (Zgf (by omega)) ?_
  refine Za (Zc (Zy rfl (Zf (Zg ?_))))
  refine Zdb (vs := []) (v := Zai (⟨0, 0, 0, 0, dz⟩ : Claim)) rfl rfl rfl (by kernel_rfl) ?_
  refine Zab (p := pt 2 0) (v := Zai (⟨0, 0, 0, 0, dz⟩ : Claim)) (b := 2) (blk := bxB 36 (Zat (⟨0, 0, 0, 0, dz⟩ : Claim))) (H' := [rwR Zi t.items, Y5 t n c, Y6, dgB ((Zbf kk t.items (n : Nat)).1), Y7 kk region epoch node t n]) (Zb (Iv 150) (Za (Zc (Zr (Z2 (Zt ?_))))))
  rw [show Zfz kk region epoch node t = (⟨0, 0, 0, 0, dz⟩, 150) from by first | exact Zmz (by omega) | exact Zpu hn (by omega) (by omega)]
  exact Zm (v := .tuple #[Zai (⟨0, 0, 0, 0, dz⟩ : Claim), Iv 150]) (by kernel_rfl) rfl rfl (by simp [Zbe, rwB, rwR, Zi]) ⟨(Zt5 (by kernel_rfl) rfl), rfl, trivial⟩
  refine Zl (vx := Iv (Zdd (⟨region, epoch, node, (n : Nat), (Zbf kk t.items (n : Nat)).1⟩ : Claim))) (vy := Iv 0) rfl rfl (.bool false) rfl rfl (Zfw (by omega)) ?_
  refine Za (Zc (Zu rfl (Zz (Zc (Zf (Zg (Zn (p := pt 4 0) (v := Zai (⟨region, epoch, node, (n : Nat), (Zbf kk t.items (n : Nat)).1⟩ : Claim)) (Zab (p := pt 2 0) (v := Zai (⟨region, epoch, node, (n : Nat), (Zbf kk t.items (n : Nat)).1⟩ : Claim)) (b := 2) (blk := bxB 36 (Zat (⟨region, epoch, node, (n : Nat), (Zbf kk t.items (n : Nat)).1⟩ : Claim))) (H' := [rwR Zi t.items, Y5 t n c, Y7 kk region epoch node t n, dgB ((Zbf kk t.items (n : Nat)).1), Y7 kk region epoch node t n]) (Zb (Iv 0) (Za (Zc (Zr (Zt ?_)))))))))))))
  rw [show Zfz kk region epoch node t = ((⟨region, epoch, node, n, (Zbf kk t.items n).1⟩ : Claim), 0) from Zpv hn (Zr8 (by omega)) (by omega)]
  exact Zm (v := .tuple #[Zai (⟨region, epoch, node, (n : Nat), (Zbf kk t.items (n : Nat)).1⟩ : Claim), Iv 0]) (by kernel_rfl) rfl rfl (by simp [Zbe, rwB, rwR, Zi]) ⟨(Zt5 (by kernel_rfl) rfl), rfl, trivial⟩
abbrev Y8 (t : TailT) (n : Nat) (d : Nat) : Blk := mxB 4 ([Iv t.node, Iv t.log, Iv t.commit, slv 0 0 n d])
theorem Zyh (t : TailT) (n d : Nat) (hn : t.items.length = n) (hc : n ≤ d) (hb : n ≤ 1048576) (c : Claim) : Z6 Tryd.prog G 18 [mxV ([Iv t.node, Iv t.log, Iv t.commit, slv 0 0 n d]), Zai c] [rwR Zi t.items] (slv 1 0 (n + 1) (n + 1)) [rwR Zi t.items, rwB Zi (Z3k t c)] := by
  refine Zbh (fn := Tryd.f18) (nt := 15) rfl rfl rfl rfl ?_
  refine Zaf 4 (H' := [rwR Zi t.items, hole, hole, hole, hole]) rfl ?_
  refine Zf (Zg (Zb7 (v := mxV ([Iv t.node, Iv t.log, Iv t.commit, slv 0 0 n d])) (b := mxB 4 ([Iv t.node, Iv t.log, Iv t.commit, slv 0 0 n d])) (nid := 1) (H' := [rwR Zi t.items, Y8 t n d, hole, hole, hole]) (Zb7 (v := Zai c) (b := bxB 36 (Zat c)) (nid := 2) (H' := [rwR Zi t.items, Y8 t n d, bxB 36 (Zat c), hole, hole]) (Zb (.slice none 0 0) (Za (Zc (Zf ?_)))))))
  refine Zgl (by kernel_rfl) ?_
  refine Zn (p := pt 1 0) (v := mxV ([Iv t.node, Iv t.log, Iv t.commit, slv 0 0 n d])) ?_
  refine Z5 (e := [some (0, 0)]) (nid := 3) (Zre (G := G) t n d hn (by omega) (by omega)) (vals := [mxV ([Iv t.node, Iv t.log, Iv t.commit, slv 0 0 n d])]) (v := mxV ([Iv t.node, Iv t.log, Iv t.commit, slv 3 0 n n])) (H' := [rwR Zi t.items, Y8 t n d, bxB 36 (Zat c), rwB Zi t.items, hole]) rfl rfl rfl rfl rfl rfl rfl ⟨⟨(Zce (by kernel_rfl) ⟨⟨rfl, rfl⟩, ⟨rfl, rfl⟩, ⟨rfl, rfl⟩, ⟨rfl, rfl, rfl, by first | omega | exact Nat.le_refl _, by first | omega | exact Nat.le_refl _⟩, trivial⟩), trivial⟩, ⟨(Zbr rfl), trivial⟩, rfl, rfl, rfl⟩ (by kernel_rfl) (by kernel_rfl) ?_
  refine Z2s (p := mxV ([Iv t.node, Iv t.log, Iv t.commit, slv 3 0 n n])) (v := slv 3 0 n n) rfl rfl rfl (by kernel_rfl) ?_
  refine Zh (b := 2) (o := 0) (n := 1) (o' := 1) (Zn (p := pt 2 1) (v := Iv c.epoch) (Zn (p := pt 2 0) (v := Zai c) ?_))
  refine Zdb (vs := [(0, Iv 3), (5, Zai c)]) (v := Zd1 (⟨3, 0, 0, ⟨#[]⟩, (⟨(⟨0, 0, 0, dz, 0⟩ : Head), 0, dz⟩ : Signed), c⟩ : Entry)) rfl rfl rfl (by kernel_rfl) ?_
  refine Zdb (vs := [(0, Iv c.epoch), (1, Zd1 (⟨3, 0, 0, ⟨#[]⟩, (⟨(⟨0, 0, 0, dz, 0⟩ : Head), 0, dz⟩ : Signed), c⟩ : Entry))]) (v := Zbd (⟨c.epoch, (⟨3, 0, 0, ⟨#[]⟩, (⟨(⟨0, 0, 0, dz, 0⟩ : Head), 0, dz⟩ : Signed), c⟩ : Entry)⟩ : Item)) rfl rfl rfl (by kernel_rfl) ?_
  refine Zep (vs := [(0, Zbd (⟨c.epoch, (⟨3, 0, 0, ⟨#[]⟩, (⟨(⟨0, 0, 0, dz, 0⟩ : Head), 0, dz⟩ : Signed), c⟩ : Entry)⟩ : Item))]) (v := slv 4 0 1 1) (blk := rwB Zi [(⟨c.epoch, (⟨3, 0, 0, ⟨#[]⟩, (⟨(⟨0, 0, 0, dz, 0⟩ : Head), 0, dz⟩ : Signed), c⟩ : Entry)⟩ : Item)]) (nid := 4) (H' := [rwR Zi t.items, Y8 t n d, bxB 36 (Zat c), rwB Zi t.items, rwB Zi [(⟨c.epoch, (⟨3, 0, 0, ⟨#[]⟩, (⟨(⟨0, 0, 0, dz, 0⟩ : Head), 0, dz⟩ : Signed), c⟩ : Entry)⟩ : Item)]]) rfl rfl rfl (by kernel_rfl) (by kernel_rfl) ?_
  have hl2 : (t.items ++ [(⟨c.epoch, (⟨3, 0, 0, ⟨#[]⟩, (⟨(⟨0, 0, 0, dz, 0⟩ : Head), 0, dz⟩ : Signed), c⟩ : Entry)⟩ : Item)]).length = n + 1 := by have := hn; have := (rfl : _ = 1); first | (rw [List.length_append]; omega) | (rw [List.length_append, List.length_take]; omega) | (simp; omega) | simp
  refine Zc6 (p := slv 3 0 n n) (q := slv 4 0 1 1) (v := slv 3 0 (n + 1) (n + 1)) (b := 3) (blk := rwB Zi (t.items ++ [(⟨c.epoch, (⟨3, 0, 0, ⟨#[]⟩, (⟨(⟨0, 0, 0, dz, 0⟩ : Head), 0, dz⟩ : Signed), c⟩ : Entry)⟩ : Item)])) (H' := [rwR Zi t.items, Y8 t n d, bxB 36 (Zat c), rwB Zi (t.items ++ [(⟨c.epoch, (⟨3, 0, 0, ⟨#[]⟩, (⟨(⟨0, 0, 0, dz, 0⟩ : Head), 0, dz⟩ : Signed), c⟩ : Entry)⟩ : Item)]), rwB Zi [(⟨c.epoch, (⟨3, 0, 0, ⟨#[]⟩, (⟨(⟨0, 0, 0, dz, 0⟩ : Head), 0, dz⟩ : Signed), c⟩ : Entry)⟩ : Item)]]) rfl rfl rfl (.inl ⟨_, rfl⟩) rfl rfl (Zig Zi (by_ := 216) (k := 1) (n' := n + 1) (ms := [(⟨c.epoch, (⟨3, 0, 0, ⟨#[]⟩, (⟨(⟨0, 0, 0, dz, 0⟩ : Head), 0, dz⟩ : Signed), c⟩ : Entry)⟩ : Item)]) (fun _ => rfl) rfl rfl (by kernel_rfl) rfl rfl (by have := hn; omega) (by omega) (by decide) (by omega)) rfl (by kernel_rfl) ?_
  refine Zb (slv 3 0 (n + 1) (n + 1)) ?_
  refine Zdc (Zb2 [[], [0], [0, 1], [], [3], [], [5], [3, 4, 5, 6], [3, 4, 5, 6, 7], [0, 1, 2, 3, 4, 5, 6, 7, 8], [0, 1, 2, 3, 4, 5, 6, 7, 8, 9]] (by kernel_rfl) (by kernel_rfl)) ?_
  refine Zc (Zr (Zt ?_))
  exact Zbc [0, 3] (v := slv 3 0 (n + 1) (n + 1)) rfl (by kernel_rfl) rfl rfl (by decide) (by simp [Zbe, rwB, rwR, Zi]) ⟨rfl, rfl, rfl, by first | omega | exact Nat.le_refl _ | exact Nat.zero_le _ | (dsimp only; omega), by first | omega | exact Nat.le_refl _ | exact Nat.zero_le _ | (dsimp only; omega)⟩
abbrev Y9 (a : TailT) (n : Nat) (c : Nat) : Blk := mxB 4 ([Iv a.node, Iv a.log, Iv a.commit, slv 0 0 n c])
theorem Z1t (a : TailT) (n c : Nat) (hn : a.items.length = n) (hc : n ≤ c) (hb : n ≤ 1048576) (b : TailT) (n' c' : Nat) (hn' : b.items.length = n') (hc' : n' ≤ c') (hb' : n' ≤ 1048576) : Z6 Tryd.prog G 24 [mxV ([Iv a.node, Iv a.log, Iv a.commit, slv 0 0 n c]), mxV ([Iv b.node, Iv b.log, Iv b.commit, slv 1 0 n' c'])] [rwR Zi a.items, rwR Zi b.items] (Iv (Zkz a b)) [rwR Zi a.items, rwR Zi b.items] := by
  refine Zbh (fn := Tryd.f24) (nt := 19) rfl rfl rfl rfl ?_
  refine Zaf 3 (H' := [rwR Zi a.items, rwR Zi b.items, hole, hole, hole]) rfl ?_
  refine Zf (Zg (Zb7 (v := mxV ([Iv a.node, Iv a.log, Iv a.commit, slv 0 0 n c])) (b := mxB 4 ([Iv a.node, Iv a.log, Iv a.commit, slv 0 0 n c])) (nid := 2) (H' := [rwR Zi a.items, rwR Zi b.items, Y9 a n c, hole, hole]) (Zb7 (v := mxV ([Iv b.node, Iv b.log, Iv b.commit, slv 1 0 n' c'])) (b := mxB 4 ([Iv b.node, Iv b.log, Iv b.commit, slv 1 0 n' c'])) (nid := 3) (H' := [rwR Zi a.items, rwR Zi b.items, Y9 a n c, mxB 4 ([Iv b.node, Iv b.log, Iv b.commit, slv 1 0 n' c']), hole]) (Zb (Iv 0) (Za (Zc (Zf ?_)))))))
  refine Zgh (by kernel_rfl) ?_
  refine Zh (b := 2) (o := 0) (n := 1) (o' := 1) (Zn (p := pt 2 1) (v := Iv a.log) (Zh (b := 3) (o := 0) (n := 1) (o' := 1) (Zn (p := pt 3 1) (v := Iv b.log) ?_)))
  refine Zs (Zif (G := G) a.log b.log) (vals := [Iv a.log, Iv b.log]) (res' := Iv (Zcr a.log b.log)) rfl rfl rfl rfl rfl rfl ?_
  refine Zh (b := 2) (o := 0) (n := 3) (o' := 3) (Zn (p := pt 2 3) (v := slv 0 0 n c) (Zaw (p := slv 0 0 n c) (v := Iv (n : Nat)) (Zh (b := 3) (o := 0) (n := 3) (o' := 3) (Zn (p := pt 3 3) (v := slv 1 0 n' c') (Zaw (p := slv 1 0 n' c') (v := Iv (n' : Nat)) ?_)))))
  refine Zs (Zif (G := G) (n : Nat) (n' : Nat)) (vals := [Iv (n : Nat), Iv (n' : Nat)]) (res' := Iv (Zcr (n : Nat) (n' : Nat))) rfl rfl rfl rfl rfl rfl ?_
  refine Zep (vs := [(0, Iv (Zcr a.log b.log)), (1, Iv (Zcr (n : Nat) (n' : Nat)))]) (v := slv 4 0 2 2) (blk := rwB Zd5 [(Zcr a.log b.log), (Zcr (n : Nat) (n' : Nat))]) (nid := 4) (H' := [rwR Zi a.items, rwR Zi b.items, Y9 a n c, mxB 4 ([Iv b.node, Iv b.log, Iv b.commit, slv 1 0 n' c']), rwB Zd5 [(Zcr a.log b.log), (Zcr (n : Nat) (n' : Nat))]]) rfl rfl rfl (by kernel_rfl) (by kernel_rfl) ?_
  refine Z5 (e := [some (4, 0)]) (nid := 0) (Z3c (G := G) [(Zcr a.log b.log), (Zcr (n : Nat) (n' : Nat))] 2 2 (rfl : _ = 2) (by omega) (by omega)) (vals := [slv 4 0 2 2]) (v := Iv (orL [(Zcr a.log b.log), (Zcr (n : Nat) (n' : Nat))])) (H' := [rwR Zi a.items, rwR Zi b.items, Y9 a n c, mxB 4 ([Iv b.node, Iv b.log, Iv b.commit, slv 1 0 n' c']), rwB Zd5 [(Zcr a.log b.log), (Zcr (n : Nat) (n' : Nat))]]) rfl rfl rfl rfl rfl rfl rfl ⟨⟨⟨rfl, rfl, rfl, by first | omega | exact Nat.le_refl _, by first | omega | exact Nat.le_refl _⟩, trivial⟩, ⟨(Zb8 rfl), trivial⟩, rfl, rfl, rfl⟩ rfl (by kernel_rfl) ?_
  refine Zb (Iv (orL [(Zcr a.log b.log), (Zcr (n : Nat) (n' : Nat))])) ?_
  refine Zdm (Zc4 [[], [0], [], [2], [0, 1, 2, 3], [], [5], [5, 6], [], [8], [8, 9], [0, 1, 2, 3, 4, 5, 6, 7, 8, 9, 10], [0, 1, 2, 3, 4, 5, 6, 7, 8, 9, 10, 11], [0, 1, 2, 3, 4, 5, 6, 7, 8, 9, 10, 11, 12], [0, 1, 2, 3, 4, 5, 6, 7, 8, 9, 10, 11, 12, 13]] (by kernel_rfl) (by kernel_rfl)) ?_
  refine Zc (Zr (Zt ?_))
  rw [show Zkz a b = orL [Zcr a.log b.log, Zcr n n'] from by unfold Zkz; rw [hn, hn']]
  exact Zm (v := Iv (orL [(Zcr a.log b.log), (Zcr (n : Nat) (n' : Nat))])) rfl rfl rfl (by kernel_rfl) rfl
theorem Zw1 (t : TailT) (n c : Nat) (hn : t.items.length = n) (hc : n ≤ c) (hb : n ≤ 1048576) : Z6 Tryd.prog G 29 [mxV ([Iv t.node, Iv t.log, Iv t.commit, slv 0 0 n c])] [rwR Zi t.items] (Iv t.commit) [rwR Zi t.items] := by
 refine Zbh (fn := Tryd.f29) (nt := 5) rfl rfl rfl rfl ?_
 refine Zaf 1 (H' := [rwR Zi t.items, hole]) rfl ?_
 refine Zf (Zg (Zb7 (v := mxV ([Iv t.node, Iv t.log, Iv t.commit, slv 0 0 n c])) (b := mxB 4 ([Iv t.node, Iv t.log, Iv t.commit, slv 0 0 n c])) (nid := 1) (H' := [rwR Zi t.items, mxB 4 ([Iv t.node, Iv t.log, Iv t.commit, slv 0 0 n c])]) (Zb (Iv 0) (Za (Zc (Zf (Zg (Zh (b := 1) (o := 0) (n := 2) (o' := 2) (Zn (p := pt 1 2) (v := Iv t.commit) (Zb (Iv t.commit) (Za (Zc (Zr (Zt ?_))))))))))))))
 exact Zm (v := Iv t.commit) rfl rfl rfl (by kernel_rfl) rfl
theorem Z3w (l : List Int) (n c : Nat) (hn : l.length = n) (hc : n ≤ c) (hb : n ≤ 1048576) (h0 : 0 < n) : Z6 Tryd.prog G 27 [slv 0 0 n c] [rwR Zd5 l] (Iv (Zjj l)) [rwR Zd5 l] := by
  refine Zbh (fn := Tryd.f27) (nt := 25) rfl rfl rfl rfl ?_
  refine Zf (Zg (Zb (Iv 0) (Za (Zc (Zf (Zf (Zg (Zd (slv 0 0 n c) (Zaw (p := slv 0 0 n c) (v := Iv (n : Nat)) ?_)))))))))
  refine Zl (vx := Iv (n : Nat)) (vy := Iv 1) rfl rfl (.bool false) rfl rfl (Zcd (by omega)) ?_
  refine Za (Zc (Zu rfl (Zz (Zc (Zf (Zg (Zd (slv 0 0 n c) ?_)))))))
  refine Zbo (b := 0) (o := 0) (j := 0) (m := n) (c := c) (sz := 1) (i := 0) (k := .i64) rfl rfl rfl rfl rfl (by omega) (by omega) (by omega) ?_
  refine Zal (p := pt 0 0) (v := Iv (l.getD 0 default)) rfl rfl rfl (Zli (m := 1) Zd5 (l := l) (i := 0) rfl rfl rfl rfl (by have := hn; omega) (by omega) rfl rfl) ?_
  refine Zb (Iv (l.getD 0 default)) (Za (Zc (Zf (Zf (Zg (Zb (Iv 1) (Za (Zc (Z8 ?_)))))))))
  refine Zbt (fun x : Nat × Int => match x with | (i, m) => [slv 0 0 n c, dead, Iv 0, Iv m, Iv (i : Nat), slv 0 0 n c, Iv (n : Nat), .bool false, dead, slv 0 0 n c, pt 0 0, Iv (l.getD 0 default)]) (fun x : Nat × Int => match x with | (i, m) => [rwR Zd5 l]) (fun x : Nat × Int => match x with | (i, m) => (l.drop i).foldl max m = Zjj l ∧ i ≤ n) (fun x : Nat × Int => match x with | (i, m) => n - i) (1, (l.getD 0 default)) ⟨Zuo (by omega), by omega⟩ ?_ ?_
  · refine Zaj (n := 1) rfl ?_ (by kernel_rfl) (by kernel_rfl)
    repeat (first | exact trivial | refine ⟨.inl rfl, ?_⟩ | refine ⟨.inr ⟨rfl, rfl⟩, ?_⟩ | refine ⟨.inr ⟨congrArg (Value.int .i64) (by first | omega | (dsimp only; omega)), rfl⟩, ?_⟩)
  rintro ⟨i, m⟩ ⟨hR, hi⟩
  dsimp only at *
  refine Zf (Zf (Zg (Zd (Iv (i : Nat)) (Zd (slv 0 0 n c) (Zaw (p := slv 0 0 n c) (v := Iv (n : Nat)) ?_)))))
  by_cases h1 : (i : Nat) < (n : Nat)
  refine Zl (vx := Iv (i : Nat)) (vy := Iv (n : Nat)) rfl rfl (.bool true) rfl rfl (Zck (by omega)) ?_
  refine Za (Zc (Zy rfl (Zz (Zc (Zf (Z8 (Zg (Zd (Iv m) (Zd (slv 0 0 n c) (Zd (Iv (i : Nat)) ?_))))))))))
  refine Zbo (b := 0) (o := 0) (j := i) (m := n) (c := c) (sz := 1) (i := (i : Nat)) (k := .i64) rfl rfl rfl rfl rfl (by omega) (by omega) (by omega) ?_
  refine Zal (p := pt 0 i) (v := Iv (l.getD i default)) rfl rfl rfl (Zli (m := 1) Zd5 (l := l) (i := i) rfl rfl rfl rfl (by have := hn; omega) (by omega) rfl rfl) ?_
  refine Z40 (vs := [Iv m, Iv (l.getD i default)]) (v := Iv (max m (l.getD i default))) rfl rfl rfl Z4p ?_
  refine Zb (Iv (max m (l.getD i default))) (Za (Z7 (Zc (Zg (Zd (Iv (i : Nat)) ?_)))))
  refine Zl (vx := Iv (i : Nat)) (vy := Iv 1) rfl rfl (Iv ((i : Nat) + 1)) rfl rfl (Zak (by omega) (by omega) (by omega)) ?_
  refine Zb (Iv ((i : Nat) + 1)) (Za ?_)
  refine Zag ⟨((i + 1), (max m (l.getD i default))), ⟨by rw [← hR]; exact (Zxm (by omega) (by omega)).symm, by dsimp only; omega⟩, by show n - (i + 1) < n - i; omega, ?_⟩
  refine Zaj (n := 1) rfl ?_ (by kernel_rfl) (by kernel_rfl)
  repeat (first | exact trivial | refine ⟨.inl rfl, ?_⟩ | refine ⟨.inr ⟨rfl, rfl⟩, ?_⟩ | refine ⟨.inr ⟨congrArg (Value.int .i64) (by first | omega | (dsimp only; omega)), rfl⟩, ?_⟩)
  refine Zl (vx := Iv (i : Nat)) (vy := Iv (n : Nat)) rfl rfl (.bool false) rfl rfl (Zcd (by omega)) ?_
  refine Za (Zc (Zu rfl (Zbm (Zaq (Zax (Zav rfl (Zc (Zf (Zg (Zd (Iv m) (Zb (Iv m) (Za (Zc (Zr (Zt ?_)))))))))))))))
  rw [show Zjj l = m from by rw [← hR, List.drop_of_length_le (by omega)]; rfl]
  exact Zm (v := Iv m) rfl rfl rfl (by kernel_rfl) rfl
end Go.Flat
