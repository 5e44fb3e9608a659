/- Walks. -/
import Derived.Test.YtoheeojjdpdljaaDoorH12
import Derived.Test.YtoheeojjdpdljaaDoorH15
set_option linter.unusedVariables false
set_option linter.unusedSimpArgs false
set_option maxRecDepth 20000
namespace Go.Flat
open Go.Proofs
variable {G : Glob}
def cpM (w : D) (s : ByteArray) : D := fun i => if i < s.size then (bl s).getD i 0 else w i
theorem Z01 {P : Program} {H : List Blk} {t : TypeId} {b o c by_ : Nat} {zc : List Value} {s : ByteArray} {blk : Blk} {w : D} {pre rest : List Value} (ht : Zdu P t = some (1, zc, by_)) (hb : H[b]? = some blk) (hw : blk.wr = true) (hpu : blk.pur = true) (hc : blk.cells = pre ++ (Zbx w8 32 w ++ rest)) (ho : o = pre.length) :
  Zl1 P H t (slv b o 32 c) (.string s) = some (Iv (min s.size 32 : Nat), b, { blk with cells := pre ++ (Zbx w8 32 (cpM w s) ++ rest) }) := by
 have hs : Zhg H 1 (.string s) = some (s.size, Zck s) := rfl
 have hl : (Zck s).length = s.size := Zea s
 have hp : Zd7 blk.pur ((Zck s).take (min s.size 32 * 1)) = true := by
  rw [hpu]
  show ((Zck s).take (min s.size 32 * 1)).all Zcf = true
  rw [List.all_eq_true]
  intro v hv
  exact List.all_eq_true.1 (Zjy s) v (List.mem_of_mem_take hv)
 unfold Zl1
 rw [ht]
 simp only [hs, Option.bind_some, hb]
 rw [if_pos (by
  simp only [Bool.and_eq_true, decide_eq_true_eq]
  refine ⟨⟨⟨hw, hp⟩, by rw [hc, ho]; simp [Zcy]⟩, by rw [List.length_take, hl]; omega⟩)]
 have hx : ((Zck s).take (min s.size 32 * 1)).length = min s.size 32 := by rw [List.length_take, hl]; omega
 have e : (Zck s).take (min s.size 32 * 1) ++ (Zbx w8 32 w).drop (min s.size 32) = Zbx w8 32 (cpM w s) := by
  rw [Zgq]
  have hbl : (bl s).length = s.size := Zb5 s
  apply List.ext_getElem?
  intro i
  by_cases hi : i < min s.size 32
  ·rw [List.getElem?_append_left (by simp [hbl]; omega), List.getElem?_take, if_pos (by omega), Zcx (by omega), List.getElem?_map, List.getElem?_eq_getElem (by omega)]
   simp only [Option.map_some, cpM]
   rw [if_pos (by omega), List.getD_eq_getElem?_getD, List.getElem?_eq_getElem (by omega)]; rfl
  ·rw [List.getElem?_append_right (by simp [hbl]; omega), List.getElem?_drop]
   simp only [List.length_take, List.length_map, hbl]
   by_cases h32 : i < 32
   ·have e2 : min s.size 32 + (i - min (min s.size 32 * 1) s.size) = i := by omega
    rw [e2, Zcx h32, Zcx h32]
    simp only [cpM]
    rw [if_neg (by omega)]
   ·rw [List.getElem?_eq_none (by rw [Zcy]; omega), List.getElem?_eq_none (by rw [Zcy]; omega)]
 congr 3
 unfold splice
 rw [hc, ho, hx, List.take_left' rfl, ← e]
 rw [show (pre ++ (Zbx w8 32 w ++ rest)).drop (pre.length + min s.size 32) = (Zbx w8 32 w).drop (min s.size 32) ++ rest from by
  rw [← List.drop_drop, List.drop_left' rfl, List.drop_append_of_le_length (by rw [Zcy]; omega)]]
 simp
def Zf5 (x : Claim) (f : Field) : Claim :=
  if f.tag = 1 then ⟨(Zq f.data).1, x.epoch, x.node, x.size, x.root⟩ else
  if f.tag = 2 then ⟨x.region, (Zq f.data).1, x.node, x.size, x.root⟩ else
  if f.tag = 3 then ⟨x.region, x.epoch, (Zq f.data).1, x.size, x.root⟩ else
  if f.tag = 4 then ⟨x.region, x.epoch, x.node, (Zq f.data).1, x.root⟩ else
  if f.tag = 5 then ⟨x.region, x.epoch, x.node, x.size, cpM x.root f.data⟩ else x
theorem Zmq (l : List Field) (i : Nat) (h : i < l.length) : l.drop i = l.getD i default :: l.drop (i + 1) := Zgl h
def Zfi : List Field → Claim → Claim
  | [], x => x
  | f :: fs, x => Zfi fs (Zf5 x f)
theorem Zte {fs : List Field} {i : Nat} {x R : Claim} (hR : Zfi (fs.drop i) x = R) (hi : i < fs.length) : Zfi (fs.drop (i + 1)) (Zf5 x (fs.getD i default)) = R := by
 rw [Zmq fs i hi] at hR; exact hR
def Z9 (l : Bs) : Claim × Int := if (Zh l).2 = 0 ∧ (Z8 (Zfi (Zh l).1 ⟨0, 0, 0, 0, dz⟩)).2 = 0 ∧ Zbq (Zl (Z8 (Zfi (Zh l).1 ⟨0, 0, 0, 0, dz⟩)).1) (Zl l) = true then (Zfi (Zh l).1 ⟨0, 0, 0, 0, dz⟩, 0) else (⟨0, 0, 0, 0, dz⟩, 60)
theorem Zra : ∀ (f : Nat) (l : Bs) (last : Int) (acc : List Field), (Zde f l last acc).1.length ≤ acc.length + l.length
 | 0, l, last, acc => Nat.le_add_right _ _
 | f + 1, l, last, acc => by
  rw [Zde]
  split
  ·exact Nat.le_add_right _ _
  ·split
   ·simp
   ·split
    ·simp
    ·rename_i h1 h2 h3
     refine Nat.le_trans (Zra f _ _ _) ?_
     have hp := Zg7 (l := l) (n := l.length) (by omega)
     rw [List.length_append, List.length_drop]
     simp only [List.length_cons, List.length_nil]
     omega
theorem Zk1 (l : Bs) : (Zh l).1.length ≤ l.length := by
 have := Zra (l.length + 1) l 0 []
 simpa [Zh] using this
theorem Ze9 (s : ByteArray) : Zao Tryd.prog G 40 [.string s] [] (Iv (Zq s).1) [] := by
 refine Zbv (fn := Tryd.f40) (nt := 11) rfl rfl rfl rfl ?_
 refine Zg (Zi (Zb rfl rfl (Iv 0) rfl (Za (Zc (Zg (Zi (Zd rfl rfl (.string s) rfl ?_)))))))
 refine Zs (Ztu (G := G) s) (vals := [.string s]) (res' := .tuple #[Iv ((Zq s).1), Iv ((Zq s).2)]) rfl rfl rfl rfl rfl (by kernel_rfl) ?_
 refine Zd rfl rfl (.tuple #[Iv ((Zq s).1), Iv ((Zq s).2)]) rfl (Zt (vs := #[Iv ((Zq s).1), Iv ((Zq s).2)]) (v := Iv ((Zq s).1)) rfl rfl rfl rfl (Zt (vs := #[Iv ((Zq s).1), Iv ((Zq s).2)]) (v := Iv ((Zq s).2)) rfl rfl rfl rfl (Zb rfl rfl (Iv ((Zq s).1)) rfl (Zb rfl rfl (Iv ((Zq s).2)) rfl (Za (Zc (Zg (Zi (Zd rfl rfl (Iv ((Zq s).1)) rfl (Zb rfl rfl (Iv ((Zq s).1)) rfl (Za (Zc (Zv (Zu ?_))))))))))))))
 exact Zm (v := Iv ((Zq s).1)) rfl rfl rfl (by kernel_rfl) rfl
theorem Z1y (x : Claim) (f : Field) : Zao Tryd.prog G 49 [pt 0 0, fdV f] [bxB 36 (Zw x)] (.tuple #[]) [bxB 36 (Zw (Zf5 x f))] := by
  refine Zbv (fn := Tryd.f49) (nt := 47) rfl rfl rfl rfl ?_
  refine Zat 1 (H' := [bxB 36 (Zw x), hole]) rfl ?_
  refine Zg (Zi ?_)
  refine Zel (v := fdV f) (b := bxB 2 (fdC f)) (nid := 1) (H' := [bxB 36 (Zw x), bxB 2 (fdC f)]) rfl rfl rfl (by kernel_rfl) (by kernel_rfl) ?_
  refine Za (Zc (Zg (Zi ?_)))
  refine Zj (b := 1) (o := 0) (n := 0) (o' := 0) rfl rfl rfl rfl rfl ?_
  refine Zo (p := pt 1 0) (v := Iv f.tag) rfl rfl rfl (by kernel_rfl) ?_
  refine Za (Zc (Zap (Zg (Zi ?_))))
  by_cases h1 : f.tag = 1
  refine Zn (vx := Iv f.tag) (vy := Iv 1) rfl rfl (.bool true) rfl rfl (Zbs (by omega)) ?_
  refine Zb rfl rfl (.bool true) rfl (Za (Zc (Z0 rfl (Zi (Zd rfl rfl (pt 0 0) rfl ?_)))))
  refine Zj (b := 1) (o := 0) (n := 1) (o' := 1) rfl rfl rfl rfl rfl ?_
  refine Zo (p := pt 1 1) (v := .string f.data) rfl rfl rfl (by kernel_rfl) ?_
  refine Zs (Ze9 (G := G) f.data) (vals := [.string f.data]) (res' := Iv ((Zq f.data).1)) rfl rfl rfl rfl rfl rfl ?_
  refine Zag (p := pt 0 0) (v := pt 0 0) rfl rfl rfl rfl ?_
  refine Zj (b := 0) (o := 0) (n := 0) (o' := 0) rfl rfl rfl rfl rfl ?_
  refine Zr (p := pt 0 0) (v := Iv ((Zq f.data).1)) (b := 0) (blk := bxB 36 (Zw (⟨((Zq f.data).1), x.epoch, x.node, x.size, x.root⟩ : Claim))) (H' := [bxB 36 (Zw (⟨((Zq f.data).1), x.epoch, x.node, x.size, x.root⟩ : Claim)), bxB 2 (fdC f)]) rfl rfl rfl (by kernel_rfl) (by kernel_rfl) ?_
  refine Za (Z1 (Zdz ?_))
  rw [show Zf5 x f = (⟨((Zq f.data).1), x.epoch, x.node, x.size, x.root⟩ : Claim) from by unfold Zf5; first | (rw [if_pos (by omega)]) | (rw [if_neg (by omega), if_pos (by omega)]) | (rw [if_neg (by omega), if_neg (by omega), if_pos (by omega)]) | (rw [if_neg (by omega), if_neg (by omega), if_neg (by omega), if_pos (by omega)]) | (rw [if_neg (by omega), if_neg (by omega), if_neg (by omega), if_neg (by omega), if_pos (by omega)]) | (rw [if_neg (by omega), if_neg (by omega), if_neg (by omega), if_neg (by omega), if_neg (by omega)])]
  exact Zm (v := .tuple #[]) rfl rfl rfl (by simp [Zac, bxB, Zej, Zcp]) trivial
  refine Zn (vx := Iv f.tag) (vy := Iv 1) rfl rfl (.bool false) rfl rfl (Zb6 (by omega)) ?_
  refine Zb rfl rfl (.bool false) rfl (Za (Zc (Zx rfl (Zg (Zi ?_)))))
  by_cases h2 : f.tag = 2
  refine Zn (vx := Iv f.tag) (vy := Iv 2) rfl rfl (.bool true) rfl rfl (Zbs (by omega)) ?_
  refine Zb rfl rfl (.bool true) rfl (Za (Zc (Z0 rfl (Zi (Zd rfl rfl (pt 0 0) rfl ?_)))))
  refine Zj (b := 1) (o := 0) (n := 1) (o' := 1) rfl rfl rfl rfl rfl ?_
  refine Zo (p := pt 1 1) (v := .string f.data) rfl rfl rfl (by kernel_rfl) ?_
  refine Zs (Ze9 (G := G) f.data) (vals := [.string f.data]) (res' := Iv ((Zq f.data).1)) rfl rfl rfl rfl rfl rfl ?_
  refine Zag (p := pt 0 0) (v := pt 0 0) rfl rfl rfl rfl ?_
  refine Zj (b := 0) (o := 0) (n := 1) (o' := 1) rfl rfl rfl rfl rfl ?_
  refine Zr (p := pt 0 1) (v := Iv ((Zq f.data).1)) (b := 0) (blk := bxB 36 (Zw (⟨x.region, ((Zq f.data).1), x.node, x.size, x.root⟩ : Claim))) (H' := [bxB 36 (Zw (⟨x.region, ((Zq f.data).1), x.node, x.size, x.root⟩ : Claim)), bxB 2 (fdC f)]) rfl rfl rfl (by kernel_rfl) (by kernel_rfl) ?_
  refine Za (Z1 (Zdz ?_))
  rw [show Zf5 x f = (⟨x.region, ((Zq f.data).1), x.node, x.size, x.root⟩ : Claim) from by unfold Zf5; first | (rw [if_pos (by omega)]) | (rw [if_neg (by omega), if_pos (by omega)]) | (rw [if_neg (by omega), if_neg (by omega), if_pos (by omega)]) | (rw [if_neg (by omega), if_neg (by omega), if_neg (by omega), if_pos (by omega)]) | (rw [if_neg (by omega), if_neg (by omega), if_neg (by omega), if_neg (by omega), if_pos (by omega)]) | (rw [if_neg (by omega), if_neg (by omega), if_neg (by omega), if_neg (by omega), if_neg (by omega)])]
  exact Zm (v := .tuple #[]) rfl rfl rfl (by simp [Zac, bxB, Zej, Zcp]) trivial
  refine Zn (vx := Iv f.tag) (vy := Iv 2) rfl rfl (.bool false) rfl rfl (Zb6 (by omega)) ?_
  refine Zb rfl rfl (.bool false) rfl (Za (Zc (Zx rfl (Zg (Zi ?_)))))
  by_cases h3 : f.tag = 3
  refine Zn (vx := Iv f.tag) (vy := Iv 3) rfl rfl (.bool true) rfl rfl (Zbs (by omega)) ?_
  refine Zb rfl rfl (.bool true) rfl (Za (Zc (Z0 rfl (Zi (Zd rfl rfl (pt 0 0) rfl ?_)))))
  refine Zj (b := 1) (o := 0) (n := 1) (o' := 1) rfl rfl rfl rfl rfl ?_
  refine Zo (p := pt 1 1) (v := .string f.data) rfl rfl rfl (by kernel_rfl) ?_
  refine Zs (Ze9 (G := G) f.data) (vals := [.string f.data]) (res' := Iv ((Zq f.data).1)) rfl rfl rfl rfl rfl rfl ?_
  refine Zag (p := pt 0 0) (v := pt 0 0) rfl rfl rfl rfl ?_
  refine Zj (b := 0) (o := 0) (n := 2) (o' := 2) rfl rfl rfl rfl rfl ?_
  refine Zr (p := pt 0 2) (v := Iv ((Zq f.data).1)) (b := 0) (blk := bxB 36 (Zw (⟨x.region, x.epoch, ((Zq f.data).1), x.size, x.root⟩ : Claim))) (H' := [bxB 36 (Zw (⟨x.region, x.epoch, ((Zq f.data).1), x.size, x.root⟩ : Claim)), bxB 2 (fdC f)]) rfl rfl rfl (by kernel_rfl) (by kernel_rfl) ?_
  refine Za (Z1 (Zdz ?_))
  rw [show Zf5 x f = (⟨x.region, x.epoch, ((Zq f.data).1), x.size, x.root⟩ : Claim) from by unfold Zf5; first | (rw [if_pos (by omega)]) | (rw [if_neg (by omega), if_pos (by omega)]) | (rw [if_neg (by omega), if_neg (by omega), if_pos (by omega)]) | (rw [if_neg (by omega), if_neg (by omega), if_neg (by omega), if_pos (by omega)]) | (rw [if_neg (by omega), if_neg (by omega), if_neg (by omega), if_neg (by omega), if_pos (by omega)]) | (rw [if_neg (by omega), if_neg (by omega), if_neg (by omega), if_neg (by omega), if_neg (by omega)])]
  exact Zm (v := .tuple #[]) rfl rfl rfl (by simp [Zac, bxB, Zej, Zcp]) trivial
  refine Zn (vx := Iv f.tag) (vy := Iv 3) rfl rfl (.bool false) rfl rfl (Zb6 (by omega)) ?_
  refine Zb rfl rfl (.bool false) rfl (Za (Zc (Zx rfl (Zg (Zi ?_)))))
  by_cases h4 : f.tag = 4
  refine Zn (vx := Iv f.tag) (vy := Iv 4) rfl rfl (.bool true) rfl rfl (Zbs (by omega)) ?_
  refine Zb rfl rfl (.bool true) rfl (Za (Zc (Z0 rfl (Zi (Zd rfl rfl (pt 0 0) rfl ?_)))))
  refine Zj (b := 1) (o := 0) (n := 1) (o' := 1) rfl rfl rfl rfl rfl ?_
  refine Zo (p := pt 1 1) (v := .string f.data) rfl rfl rfl (by kernel_rfl) ?_
  refine Zs (Ze9 (G := G) f.data) (vals := [.string f.data]) (res' := Iv ((Zq f.data).1)) rfl rfl rfl rfl rfl rfl ?_
  refine Zag (p := pt 0 0) (v := pt 0 0) rfl rfl rfl rfl ?_
  refine Zj (b := 0) (o := 0) (n := 3) (o' := 3) rfl rfl rfl rfl rfl ?_
  refine Zr (p := pt 0 3) (v := Iv ((Zq f.data).1)) (b := 0) (blk := bxB 36 (Zw (⟨x.region, x.epoch, x.node, ((Zq f.data).1), x.root⟩ : Claim))) (H' := [bxB 36 (Zw (⟨x.region, x.epoch, x.node, ((Zq f.data).1), x.root⟩ : Claim)), bxB 2 (fdC f)]) rfl rfl rfl (by kernel_rfl) (by kernel_rfl) ?_
  refine Za (Z1 (Zdz ?_))
  rw [show Zf5 x f = (⟨x.region, x.epoch, x.node, ((Zq f.data).1), x.root⟩ : Claim) from by unfold Zf5; first | (rw [if_pos (by omega)]) | (rw [if_neg (by omega), if_pos (by omega)]) | (rw [if_neg (by omega), if_neg (by omega), if_pos (by omega)]) | (rw [if_neg (by omega), if_neg (by omega), if_neg (by omega), if_pos (by omega)]) | (rw [if_neg (by omega), if_neg (by omega), if_neg (by omega), if_neg (by omega), if_pos (by omega)]) | (rw [if_neg (by omega), if_neg (by omega), if_neg (by omega), if_neg (by omega), if_neg (by omega)])]
  exact Zm (v := .tuple #[]) rfl rfl rfl (by simp [Zac, bxB, Zej, Zcp]) trivial
  refine Zn (vx := Iv f.tag) (vy := Iv 4) rfl rfl (.bool false) rfl rfl (Zb6 (by omega)) ?_
  refine Zb rfl rfl (.bool false) rfl (Za (Zc (Zx rfl (Zg (Zi ?_)))))
  by_cases h5 : f.tag = 5
  refine Zn (vx := Iv f.tag) (vy := Iv 5) rfl rfl (.bool true) rfl rfl (Zbs (by omega)) ?_
  refine Zb rfl rfl (.bool true) rfl (Za (Zc (Z0 rfl ?_)))
  refine Zj2 (by kernel_rfl) ?_
  refine Zd rfl rfl (pt 0 0) rfl ?_
  refine Zag (p := pt 0 0) (v := pt 0 0) rfl rfl rfl rfl ?_
  refine Zj (b := 0) (o := 0) (n := 4) (o' := 4) rfl rfl rfl rfl rfl ?_
  refine Zec (p := pt 0 4) (vl := none) (vh := none) (v := slv 0 4 32 32) rfl rfl rfl rfl rfl rfl ?_
  refine Zj (b := 1) (o := 0) (n := 1) (o' := 1) rfl rfl rfl rfl rfl ?_
  refine Zo (p := pt 1 1) (v := .string f.data) rfl rfl rfl (by kernel_rfl) ?_
  refine Zvs (p := slv 0 4 32 32) (q := .string f.data) (v := Iv (((min f.data.size 32) : Nat) : Int)) (b := 0) (blk := bxB 36 (Zw (⟨x.region, x.epoch, x.node, x.size, (cpM x.root f.data)⟩ : Claim))) (H' := [bxB 36 (Zw (⟨x.region, x.epoch, x.node, x.size, (cpM x.root f.data)⟩ : Claim)), bxB 2 (fdC f)]) rfl rfl rfl rfl (Eq.trans (Z01 (w := x.root) (pre := (Zw x).take 4) (rest := (Zw x).drop 36) rfl rfl rfl rfl (by kernel_rfl) rfl) (by kernel_rfl)) (by kernel_rfl) ?_
  refine Zig (Zki [[], [0], [0, 1], [0, 1, 2], [], [4], [0, 1, 2, 3, 4, 5]] (by kernel_rfl) (by kernel_rfl)) ?_
  refine Z1 (Zdz ?_)
  rw [show Zf5 x f = (⟨x.region, x.epoch, x.node, x.size, (cpM x.root f.data)⟩ : Claim) from by unfold Zf5; first | (rw [if_pos (by omega)]) | (rw [if_neg (by omega), if_pos (by omega)]) | (rw [if_neg (by omega), if_neg (by omega), if_pos (by omega)]) | (rw [if_neg (by omega), if_neg (by omega), if_neg (by omega), if_pos (by omega)]) | (rw [if_neg (by omega), if_neg (by omega), if_neg (by omega), if_neg (by omega), if_pos (by omega)]) | (rw [if_neg (by omega), if_neg (by omega), if_neg (by omega), if_neg (by omega), if_neg (by omega)])]
  exact Zm (v := .tuple #[]) rfl rfl rfl (by simp [Zac, bxB, Zej, Zcp]) trivial
  refine Zn (vx := Iv f.tag) (vy := Iv 5) rfl rfl (.bool false) rfl rfl (Zb6 (by omega)) ?_
  refine Zb rfl rfl (.bool false) rfl (Za (Zc (Zx rfl (Zai (Z1 (Zdz ?_))))))
  rw [show Zf5 x f = x from by unfold Zf5; first | (rw [if_pos (by omega)]) | (rw [if_neg (by omega), if_pos (by omega)]) | (rw [if_neg (by omega), if_neg (by omega), if_pos (by omega)]) | (rw [if_neg (by omega), if_neg (by omega), if_neg (by omega), if_pos (by omega)]) | (rw [if_neg (by omega), if_neg (by omega), if_neg (by omega), if_neg (by omega), if_pos (by omega)]) | (rw [if_neg (by omega), if_neg (by omega), if_neg (by omega), if_neg (by omega), if_neg (by omega)])]
  exact Zm (v := .tuple #[]) rfl rfl rfl (by simp [Zac, bxB, Zej, Zcp]) trivial
theorem Zlh (l m : Bs) (n c p d : Nat) (hn : l.length = n) (hm : m.length = p) (hc : n ≤ c) (hd : p ≤ d) : Zao Tryd.prog G 68 [slv 0 0 n c, slv 1 0 p d] [rdB l, rdB m] (.bool (Zbq (Zl l) (Zl m))) [rdB l, rdB m] := by
 refine Zbv (fn := Tryd.f68) (nt := 10) rfl rfl rfl rfl ?_
 refine Zg (Zi (Zb rfl rfl (.bool false) rfl (Za (Zc (Zg (Zi (Zd rfl rfl (slv 0 0 n c) rfl ?_)))))))
 refine Zc6 (p := slv 0 0 n c) (v := .string (Zl l)) rfl rfl rfl (Zbi rfl rfl rfl rfl rfl (by have := hn; omega)) ?_
 refine Zd rfl rfl (slv 1 0 p d) rfl ?_
 refine Zc6 (p := slv 1 0 p d) (v := .string (Zl m)) rfl rfl rfl (Zbi rfl rfl rfl rfl rfl (by have := hm; omega)) ?_
 rcases Bool.eq_false_or_eq_true (Zbq (Zl l) (Zl m)) with h1 | h1
 refine Zn (vx := .string (Zl l)) (vy := .string (Zl m)) rfl rfl (.bool true) rfl rfl (Eq.trans (Zda _ _) (by rw [h1] <;> rfl)) ?_
 refine Zb rfl rfl (.bool true) rfl (Za (Zc (Zv (Zu ?_))))
 rw [show Zbq (Zl l) (Zl m) = true from by assumption]
 exact Zm (v := .bool true) rfl rfl rfl (by simp [Zac, rdB]) rfl
 refine Zn (vx := .string (Zl l)) (vy := .string (Zl m)) rfl rfl (.bool false) rfl rfl (Eq.trans (Zda _ _) (by rw [h1] <;> rfl)) ?_
 refine Zb rfl rfl (.bool false) rfl (Za (Zc (Zv (Zu ?_))))
 rw [show Zbq (Zl l) (Zl m) = false from by assumption]
 exact Zm (v := .bool false) rfl rfl rfl (by simp [Zac, rdB]) rfl
theorem Z2g (l : Bs) (c : Nat) (hc : l.length ≤ c) (hb : l.length ≤ 1048576) : Zao Tryd.prog G 48 [slv 0 0 l.length c, .func (.func 49) #[] #[], .func (.func 25) #[] #[]] [rdB l] (.tuple #[Zz (Z9 l).1, Iv (Z9 l).2]) [rdB l] := by
  refine Zbv (fn := Tryd.f48) (nt := 50) rfl rfl rfl rfl ?_
  refine Zat 4 (H' := [rdB l, hole, hole, hole, hole]) rfl ?_
  refine Zg (Zi ?_)
  refine Zae (b := bxB 36 (Zw (⟨0, 0, 0, 0, dz⟩ : Claim))) (nid := 1) (H' := [rdB l, bxB 36 (Zw (⟨0, 0, 0, 0, dz⟩ : Claim)), hole, hole, hole]) rfl rfl (by kernel_rfl) (by kernel_rfl) ?_
  refine Zb rfl rfl (Iv 0) rfl (Za (Zc (Zg (Zi ?_))))
  refine Zae (b := bxB 36 (Zw (⟨0, 0, 0, 0, dz⟩ : Claim))) (nid := 2) (H' := [rdB l, bxB 36 (Zw (⟨0, 0, 0, 0, dz⟩ : Claim)), bxB 36 (Zw (⟨0, 0, 0, 0, dz⟩ : Claim)), hole, hole]) rfl rfl (by kernel_rfl) (by kernel_rfl) ?_
  refine Zae (b := bxB 36 (Zw (⟨0, 0, 0, 0, dz⟩ : Claim))) (nid := 3) (H' := [rdB l, bxB 36 (Zw (⟨0, 0, 0, 0, dz⟩ : Claim)), bxB 36 (Zw (⟨0, 0, 0, 0, dz⟩ : Claim)), bxB 36 (Zw (⟨0, 0, 0, 0, dz⟩ : Claim)), hole]) rfl rfl (by kernel_rfl) (by kernel_rfl) ?_
  refine Za (Zc (Zg (Zi (Zd rfl rfl (slv 0 0 l.length c) rfl ?_))))
  have hrl4 := Zk1 l
  refine Zad (e := [some (0, 0)]) (nid := 4) (Zof (G := G) l c (by omega) (by omega)) (vals := [slv 0 0 l.length c]) (v := .tuple #[slv 4 0 ((Zh l).1.length) ((Zh l).1.length), Iv ((Zh l).2)]) (H' := [rdB l, bxB 36 (Zw (⟨0, 0, 0, 0, dz⟩ : Claim)), bxB 36 (Zw (⟨0, 0, 0, 0, dz⟩ : Claim)), bxB 36 (Zw (⟨0, 0, 0, 0, dz⟩ : Claim)), rwB cFd ((Zh l).1)]) rfl rfl rfl rfl rfl rfl rfl ⟨⟨⟨rfl, rfl, rfl, by first | omega | exact Nat.le_refl _, by first | omega | exact Nat.le_refl _⟩, trivial⟩, ⟨(Zdk rfl), trivial⟩, rfl, rfl, rfl⟩ (by kernel_rfl) (by kernel_rfl) ?_
  refine Zd rfl rfl (.tuple #[slv 4 0 ((Zh l).1.length) ((Zh l).1.length), Iv ((Zh l).2)]) rfl (Zt (vs := #[slv 4 0 ((Zh l).1.length) ((Zh l).1.length), Iv ((Zh l).2)]) (v := slv 4 0 ((Zh l).1.length) ((Zh l).1.length)) rfl rfl rfl rfl (Zt (vs := #[slv 4 0 ((Zh l).1.length) ((Zh l).1.length), Iv ((Zh l).2)]) (v := Iv ((Zh l).2)) rfl rfl rfl rfl (Zb rfl rfl (slv 4 0 ((Zh l).1.length) ((Zh l).1.length)) rfl (Zb rfl rfl (Iv ((Zh l).2)) rfl (Za (Zc (Zg (Zg (Zi (Zd rfl rfl (slv 4 0 ((Zh l).1.length) ((Zh l).1.length)) rfl ?_))))))))))
  refine Zb7 (p := slv 4 0 ((Zh l).1.length) ((Zh l).1.length)) (v := Iv ((((Zh l).1.length) : Nat) : Int)) rfl rfl rfl rfl ?_
  refine Zd rfl rfl (Iv 0) rfl (Za (Zc (Zap ?_)))
  refine Zb8 (fun x : Nat × Claim => match x with | (i, x) => [slv 0 0 l.length c, .func (.func 49) #[] #[], .func (.func 25) #[] #[], dead, dead, dead, pt 1 0, Iv 0, pt 2 0, pt 3 0, slv 4 0 ((Zh l).1.length) ((Zh l).1.length), Iv ((Zh l).2), dead, dead, dead, dead, .tuple #[slv 4 0 ((Zh l).1.length) ((Zh l).1.length), Iv ((Zh l).2)], slv 0 0 l.length c, .tuple #[slv 4 0 ((Zh l).1.length) ((Zh l).1.length), Iv ((Zh l).2)], slv 4 0 ((Zh l).1.length) ((Zh l).1.length), Iv ((Zh l).2), slv 4 0 ((Zh l).1.length) ((Zh l).1.length), Iv ((((Zh l).1.length) : Nat) : Int), Iv (i : Nat)]) (fun x : Nat × Claim => match x with | (i, x) => [rdB l, bxB 36 (Zw (⟨0, 0, 0, 0, dz⟩ : Claim)), bxB 36 (Zw x), bxB 36 (Zw (⟨0, 0, 0, 0, dz⟩ : Claim)), rwB cFd ((Zh l).1)]) (fun x : Nat × Claim => match x with | (i, x) => Zfi ((Zh l).1.drop i) x = Zfi (Zh l).1 ⟨0, 0, 0, 0, dz⟩ ∧ i ≤ (Zh l).1.length) (fun x : Nat × Claim => match x with | (i, x) => (Zh l).1.length - i) (0, ⟨0, 0, 0, 0, dz⟩) ⟨rfl, Nat.zero_le _⟩ ?_ ?_
  · refine Zaq (n := 5) rfl ?_ (by kernel_rfl) (by kernel_rfl)
    repeat (first | exact trivial | refine ⟨.inl rfl, ?_⟩ | refine ⟨.inr ⟨rfl, rfl⟩, ?_⟩ | refine ⟨.inr ⟨congrArg (Value.int .i64) (by first | omega | (dsimp only; omega)), rfl⟩, ?_⟩)
  rintro ⟨i, x⟩ ⟨hR, hi⟩
  dsimp only at *
  refine Zat 1 (H' := [rdB l, bxB 36 (Zw (⟨0, 0, 0, 0, dz⟩ : Claim)), bxB 36 (Zw x), bxB 36 (Zw (⟨0, 0, 0, 0, dz⟩ : Claim)), rwB cFd ((Zh l).1), hole]) rfl ?_
  refine Zg (Zi ?_)
  by_cases h1 : (i : Nat) < ((((Zh l).1.length) : Nat) : Int)
  refine Zn (vx := Iv (i : Nat)) (vy := Iv ((((Zh l).1.length) : Nat) : Int)) rfl rfl (.bool true) rfl rfl (Zdt (by omega)) ?_
  refine Za (Zc (Zg (Z0 rfl (Zai (Zc (Zg (Zap (Zg (Zi ?_)))))))))
  refine Zbk (b := 4) (o := 0) (j := i * 2) (m := ((Zh l).1.length)) (c := ((Zh l).1.length)) (sz := 2) (i := (i : Nat)) (k := .i64) rfl rfl rfl rfl rfl (by omega) (by omega) (by omega) ?_
  refine Zo (p := pt 4 (i * 2)) (v := fdV (((Zh l).1).getD i default)) rfl rfl rfl (Zk0 (n := 0) (m := 2) cFd rfl rfl rfl rfl (by omega) (by omega)) ?_
  refine Zae (b := bxB 2 (fdC (⟨0, ⟨#[]⟩⟩ : Field))) (nid := 5) (H' := [rdB l, bxB 36 (Zw (⟨0, 0, 0, 0, dz⟩ : Claim)), bxB 36 (Zw x), bxB 36 (Zw (⟨0, 0, 0, 0, dz⟩ : Claim)), rwB cFd ((Zh l).1), bxB 2 (fdC (⟨0, ⟨#[]⟩⟩ : Field))]) rfl rfl (by kernel_rfl) (by kernel_rfl) ?_
  refine Zr (p := pt 5 0) (v := fdV (((Zh l).1).getD i default)) (b := 5) (blk := bxB 2 (fdC (((Zh l).1).getD i default))) (H' := [rdB l, bxB 36 (Zw (⟨0, 0, 0, 0, dz⟩ : Claim)), bxB 36 (Zw x), bxB 36 (Zw (⟨0, 0, 0, 0, dz⟩ : Claim)), rwB cFd ((Zh l).1), bxB 2 (fdC (((Zh l).1).getD i default))]) rfl rfl rfl (by kernel_rfl) (by kernel_rfl) ?_
  refine Za (Zc (Zi (Zd rfl rfl (.func (.func 49) #[] #[]) rfl ?_)))
  refine Zo (p := pt 5 0) (v := fdV (((Zh l).1).getD i default)) rfl rfl rfl (by kernel_rfl) ?_
  refine Zad (e := [some (2, 0)]) (nid := 0) (Z1y (G := G) x (((Zh l).1).getD i default)) (vals := [pt 2 0, fdV (((Zh l).1).getD i default)]) (v := .tuple #[]) (H' := [rdB l, bxB 36 (Zw (⟨0, 0, 0, 0, dz⟩ : Claim)), bxB 36 (Zw (Zf5 x (((Zh l).1).getD i default))), bxB 36 (Zw (⟨0, 0, 0, 0, dz⟩ : Claim)), rwB cFd ((Zh l).1), bxB 2 (fdC (((Zh l).1).getD i default))]) rfl rfl rfl rfl rfl rfl rfl ⟨⟨⟨rfl, rfl⟩, rfl, trivial⟩, ⟨(Zay rfl rfl rfl rfl), trivial⟩, rfl, rfl, rfl⟩ (by kernel_rfl) (by kernel_rfl) ?_
  refine Za (Z1 (Zc (Zi ?_)))
  refine Zn (vx := Iv (i : Nat)) (vy := Iv 1) rfl rfl (Iv ((i : Nat) + 1)) rfl rfl (Za7 (by omega) (by omega) (by omega)) ?_
  refine Zd rfl rfl (Iv ((i : Nat) + 1)) rfl (Za ?_)
  refine Zau ⟨((i + 1), (Zf5 x (((Zh l).1).getD i default))), ⟨Zte hR (by omega), by dsimp only; omega⟩, by show (Zh l).1.length - (i + 1) < (Zh l).1.length - i; omega, ?_⟩
  refine Zaq (n := 5) rfl ?_ (by kernel_rfl) (by kernel_rfl)
  repeat (first | exact trivial | refine ⟨.inl rfl, ?_⟩ | refine ⟨.inr ⟨rfl, rfl⟩, ?_⟩ | refine ⟨.inr ⟨congrArg (Value.int .i64) (by first | omega | (dsimp only; omega)), rfl⟩, ?_⟩)
  refine Zn (vx := Iv (i : Nat)) (vy := Iv ((((Zh l).1.length) : Nat) : Int)) rfl rfl (.bool false) rfl rfl (Zdh (by omega)) ?_
  refine Za (Zc (Zg (Zx rfl (Zce (Zbj (Zbo (Zbp rfl (Zc (Zg (Zg (Zi (Zd rfl rfl (.func (.func 25) #[] #[]) rfl ?_))))))))))))
  refine Zo (p := pt 2 0) (v := Zz x) rfl rfl rfl (by kernel_rfl) ?_
  have hpl5 := Zi3 x
  refine Zad (e := []) (nid := 5) (Zh9 (G := G) x) (vals := [Zz x]) (v := .tuple #[slv 5 0 ((Z8 x).1.length) ((Z8 x).1.length), Iv ((Z8 x).2)]) (H' := [rdB l, bxB 36 (Zw (⟨0, 0, 0, 0, dz⟩ : Claim)), bxB 36 (Zw x), bxB 36 (Zw (⟨0, 0, 0, 0, dz⟩ : Claim)), rwB cFd ((Zh l).1), Zy ((Z8 x).1)]) rfl rfl rfl rfl rfl rfl rfl ⟨⟨rfl, trivial⟩, trivial, rfl, rfl, rfl⟩ (by kernel_rfl) (by kernel_rfl) ?_
  refine Zd rfl rfl (.tuple #[slv 5 0 ((Z8 x).1.length) ((Z8 x).1.length), Iv ((Z8 x).2)]) rfl (Zt (vs := #[slv 5 0 ((Z8 x).1.length) ((Z8 x).1.length), Iv ((Z8 x).2)]) (v := slv 5 0 ((Z8 x).1.length) ((Z8 x).1.length)) rfl rfl rfl rfl (Zt (vs := #[slv 5 0 ((Z8 x).1.length) ((Z8 x).1.length), Iv ((Z8 x).2)]) (v := Iv ((Z8 x).2)) rfl rfl rfl rfl (Zb rfl rfl (slv 5 0 ((Z8 x).1.length) ((Z8 x).1.length)) rfl (Zb rfl rfl (Iv ((Z8 x).2)) rfl (Za (Zc (Zg (Zi (Zd rfl rfl (Iv ((Zh l).2)) rfl ?_)))))))))
  by_cases h2 : ((Zh l).2) = 0
  refine Zn (vx := Iv ((Zh l).2)) (vy := Iv 0) rfl rfl (.bool true) rfl rfl (Zbs (by omega)) ?_
  refine Zd rfl rfl (.bool true) rfl (Zd rfl rfl (Iv ((Z8 x).2)) rfl ?_)
  by_cases h3 : ((Z8 x).2) = 0
  refine Zn (vx := Iv ((Z8 x).2)) (vy := Iv 0) rfl rfl (.bool true) rfl rfl (Zbs (by omega)) ?_
  refine Zk rfl rfl (.bool true) rfl (Zd rfl rfl (.bool true) rfl (Zd rfl rfl (slv 5 0 ((Z8 x).1.length) ((Z8 x).1.length)) rfl (Zd rfl rfl (slv 0 0 l.length c) rfl ?_)))
  refine Zad (e := [some (5, 0), some (0, 0)]) (nid := 0) (Zlh (G := G) ((Z8 x).1) l ((Z8 x).1.length) ((Z8 x).1.length) l.length c rfl rfl (by omega) (by omega)) (vals := [slv 5 0 ((Z8 x).1.length) ((Z8 x).1.length), slv 0 0 l.length c]) (v := .bool (Zbq (Zl ((Z8 x).1)) (Zl l))) (H' := [rdB l, bxB 36 (Zw (⟨0, 0, 0, 0, dz⟩ : Claim)), bxB 36 (Zw x), bxB 36 (Zw (⟨0, 0, 0, 0, dz⟩ : Claim)), rwB cFd ((Zh l).1), Zy ((Z8 x).1)]) rfl rfl rfl rfl rfl rfl rfl ⟨⟨⟨rfl, rfl, rfl, by first | omega | exact Nat.le_refl _, by first | omega | exact Nat.le_refl _⟩, ⟨rfl, rfl, rfl, by first | omega | exact Nat.le_refl _, by first | omega | exact Nat.le_refl _⟩, trivial⟩, ⟨(Ze1 rfl), (Zdk rfl), trivial⟩, rfl, rfl, rfl⟩ rfl (by kernel_rfl) ?_
  refine Zk rfl rfl (.bool (Zbq (Zl ((Z8 x).1)) (Zl l))) rfl (Za (Zc ?_))
  rcases Bool.eq_false_or_eq_true (Zbq (Zl ((Z8 x).1)) (Zl l)) with h4 | h4
  refine Z0 (congrArg Value.bool h4) (Zg (Zi ?_))
  refine Zo (p := pt 2 0) (v := Zz x) rfl rfl rfl (by kernel_rfl) ?_
  refine Zr (p := pt 1 0) (v := Zz x) (b := 1) (blk := bxB 36 (Zw x)) (H' := [rdB l, bxB 36 (Zw x), bxB 36 (Zw x), bxB 36 (Zw (⟨0, 0, 0, 0, dz⟩ : Claim)), rwB cFd ((Zh l).1), Zy ((Z8 x).1)]) rfl rfl rfl (by kernel_rfl) (by kernel_rfl) ?_
  refine Zb rfl rfl (Iv 0) rfl (Za (Zc (Zv (Z5 (Zu ?_)))))
  have hx : x = Zfi (Zh l).1 ⟨0, 0, 0, 0, dz⟩ := by rw [← hR, List.drop_of_length_le (by omega)]; rfl
  rw [show Z9 l = (x, 0) from by unfold Z9; rw [← hx]; exact if_pos ⟨by omega, by omega, by assumption⟩]
  exact Zm (v := .tuple #[Zz x, Iv 0]) (by kernel_rfl) rfl rfl (by simp [Zac, rdB]) ⟨(Zbd (by kernel_rfl) rfl), rfl, trivial⟩
  refine Zx (congrArg Value.bool h4) (Zai (Zc (Zg (Zi ?_))))
  refine Zo (p := pt 3 0) (v := Zz (⟨0, 0, 0, 0, dz⟩ : Claim)) rfl rfl rfl (by kernel_rfl) ?_
  refine Zr (p := pt 1 0) (v := Zz (⟨0, 0, 0, 0, dz⟩ : Claim)) (b := 1) (blk := bxB 36 (Zw (⟨0, 0, 0, 0, dz⟩ : Claim))) (H' := [rdB l, bxB 36 (Zw (⟨0, 0, 0, 0, dz⟩ : Claim)), bxB 36 (Zw x), bxB 36 (Zw (⟨0, 0, 0, 0, dz⟩ : Claim)), rwB cFd ((Zh l).1), Zy ((Z8 x).1)]) rfl rfl rfl (by kernel_rfl) (by kernel_rfl) ?_
  refine Zb rfl rfl (Iv 60) rfl (Za (Zc (Zv (Zu ?_))))
  have hx : x = Zfi (Zh l).1 ⟨0, 0, 0, 0, dz⟩ := by rw [← hR, List.drop_of_length_le (by omega)]; rfl
  rw [show Z9 l = (⟨0, 0, 0, 0, dz⟩, 60) from by unfold Z9; rw [← hx]; exact if_neg (fun q => by have q1 := q.1; have q2 := q.2.1; have q3 := q.2.2; first | omega | (simp_all; done))]
  exact Zm (v := .tuple #[Zz (⟨0, 0, 0, 0, dz⟩ : Claim), Iv 60]) (by kernel_rfl) rfl rfl (by simp [Zac, rdB]) ⟨(Zbd (by kernel_rfl) rfl), rfl, trivial⟩
  refine Zn (vx := Iv ((Z8 x).2)) (vy := Iv 0) rfl rfl (.bool false) rfl rfl (Zb6 (by omega)) ?_
  refine Zk rfl rfl (.bool false) rfl (Zd rfl rfl (.bool false) rfl (Zf rfl rfl (Zf rfl rfl (Zf rfl rfl (Zk rfl rfl (.bool false) rfl (Za (Zc (Zx rfl (Zai (Zc (Zg (Zi ?_))))))))))))
  refine Zo (p := pt 3 0) (v := Zz (⟨0, 0, 0, 0, dz⟩ : Claim)) rfl rfl rfl (by kernel_rfl) ?_
  refine Zr (p := pt 1 0) (v := Zz (⟨0, 0, 0, 0, dz⟩ : Claim)) (b := 1) (blk := bxB 36 (Zw (⟨0, 0, 0, 0, dz⟩ : Claim))) (H' := [rdB l, bxB 36 (Zw (⟨0, 0, 0, 0, dz⟩ : Claim)), bxB 36 (Zw x), bxB 36 (Zw (⟨0, 0, 0, 0, dz⟩ : Claim)), rwB cFd ((Zh l).1), Zy ((Z8 x).1)]) rfl rfl rfl (by kernel_rfl) (by kernel_rfl) ?_
  refine Zb rfl rfl (Iv 60) rfl (Za (Zc (Zv (Zu ?_))))
  have hx : x = Zfi (Zh l).1 ⟨0, 0, 0, 0, dz⟩ := by rw [← hR, List.drop_of_length_le (by omega)]; rfl
  rw [show Z9 l = (⟨0, 0, 0, 0, dz⟩, 60) from by unfold Z9; rw [← hx]; exact if_neg (fun q => by have q1 := q.1; have q2 := q.2.1; have q3 := q.2.2; first | omega | (simp_all; done))]
  exact Zm (v := .tuple #[Zz (⟨0, 0, 0, 0, dz⟩ : Claim), Iv 60]) (by kernel_rfl) rfl rfl (by simp [Zac, rdB]) ⟨(Zbd (by kernel_rfl) rfl), rfl, trivial⟩
  refine Zn (vx := Iv ((Zh l).2)) (vy := Iv 0) rfl rfl (.bool false) rfl rfl (Zb6 (by omega)) ?_
  refine Zd rfl rfl (.bool false) rfl (Zf rfl rfl (Zf rfl rfl (Zk rfl rfl (.bool false) rfl (Zd rfl rfl (.bool false) rfl (Zf rfl rfl (Zf rfl rfl (Zf rfl rfl (Zk rfl rfl (.bool false) rfl (Za (Zc (Zx rfl (Zai (Zc (Zg (Zi ?_)))))))))))))))
  refine Zo (p := pt 3 0) (v := Zz (⟨0, 0, 0, 0, dz⟩ : Claim)) rfl rfl rfl (by kernel_rfl) ?_
  refine Zr (p := pt 1 0) (v := Zz (⟨0, 0, 0, 0, dz⟩ : Claim)) (b := 1) (blk := bxB 36 (Zw (⟨0, 0, 0, 0, dz⟩ : Claim))) (H' := [rdB l, bxB 36 (Zw (⟨0, 0, 0, 0, dz⟩ : Claim)), bxB 36 (Zw x), bxB 36 (Zw (⟨0, 0, 0, 0, dz⟩ : Claim)), rwB cFd ((Zh l).1), Zy ((Z8 x).1)]) rfl rfl rfl (by kernel_rfl) (by kernel_rfl) ?_
  refine Zb rfl rfl (Iv 60) rfl (Za (Zc (Zv (Zu ?_))))
  have hx : x = Zfi (Zh l).1 ⟨0, 0, 0, 0, dz⟩ := by rw [← hR, List.drop_of_length_le (by omega)]; rfl
  rw [show Z9 l = (⟨0, 0, 0, 0, dz⟩, 60) from by unfold Z9; rw [← hx]; exact if_neg (fun q => by have q1 := q.1; have q2 := q.2.1; have q3 := q.2.2; first | omega | (simp_all; done))]
  exact Zm (v := .tuple #[Zz (⟨0, 0, 0, 0, dz⟩ : Claim), Iv 60]) (by kernel_rfl) rfl rfl (by simp [Zac, rdB]) ⟨(Zbd (by kernel_rfl) rfl), rfl, trivial⟩
theorem Zjx (l : Bs) (c : Nat) (hc : l.length ≤ c) (hb : l.length ≤ 1048576) : Zao Tryd.prog G 20 [slv 0 0 l.length c] [rdB l] (.tuple #[Zz (Z9 l).1, Iv (Z9 l).2]) [rdB l] := by
  refine Zbv (fn := Tryd.f20) (nt := 8) rfl rfl rfl rfl ?_
  refine Zat 1 (H' := [rdB l, hole]) rfl ?_
  refine Zg (Zi ?_)
  refine Zae (b := bxB 36 (Zw (⟨0, 0, 0, 0, dz⟩ : Claim))) (nid := 1) (H' := [rdB l, bxB 36 (Zw (⟨0, 0, 0, 0, dz⟩ : Claim))]) rfl rfl (by kernel_rfl) (by kernel_rfl) ?_
  refine Zb rfl rfl (Iv 0) rfl (Za (Zc (Zg (Zi (Zd rfl rfl (slv 0 0 l.length c) rfl ?_)))))
  refine Zad (e := [some (0, 0)]) (nid := 0) (Z2g (G := G) l c (by omega) (by omega)) (vals := [slv 0 0 l.length c, .func (.func 49) #[] #[], .func (.func 25) #[] #[]]) (v := .tuple #[Zz ((Z9 l).1), Iv ((Z9 l).2)]) (H' := [rdB l, bxB 36 (Zw (⟨0, 0, 0, 0, dz⟩ : Claim))]) rfl rfl rfl rfl rfl rfl rfl ⟨⟨⟨rfl, rfl, rfl, by first | omega | exact Nat.le_refl _, by first | omega | exact Nat.le_refl _⟩, ⟨by simp [Zdq, Zct], by kernel_rfl⟩, ⟨by simp [Zdq, Zct], by kernel_rfl⟩, trivial⟩, ⟨(Zdk rfl), trivial⟩, rfl, rfl, rfl⟩ (by kernel_rfl) (by kernel_rfl) ?_
  refine Zt (vs := #[Zz ((Z9 l).1), Iv ((Z9 l).2)]) (v := Zz ((Z9 l).1)) rfl rfl rfl rfl (Zt (vs := #[Zz ((Z9 l).1), Iv ((Z9 l).2)]) (v := Iv ((Z9 l).2)) rfl rfl rfl rfl ?_)
  refine Zr (p := pt 1 0) (v := Zz ((Z9 l).1)) (b := 1) (blk := bxB 36 (Zw ((Z9 l).1))) (H' := [rdB l, bxB 36 (Zw ((Z9 l).1))]) rfl rfl rfl (by kernel_rfl) (by kernel_rfl) ?_
  refine Zb rfl rfl (Iv ((Z9 l).2)) rfl (Za (Zc (Zv (Zu ?_))))
  exact Zm (v := .tuple #[Zz ((Z9 l).1), Iv ((Z9 l).2)]) (by kernel_rfl) rfl rfl (by simp [Zac, rdB]) ⟨(Zbd (by kernel_rfl) rfl), rfl, trivial⟩
end Go.Flat
