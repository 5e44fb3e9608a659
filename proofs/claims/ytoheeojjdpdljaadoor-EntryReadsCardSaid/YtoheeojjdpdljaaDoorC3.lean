/- Walks. -/
import Derived.Test.YtoheeojjdpdljaaDoorC2
import Derived.Test.YtoheeojjdpdljaaDoorP2
set_option linter.unusedVariables false
set_option linter.unusedSimpArgs false
set_option maxRecDepth 20000
namespace Go.Flat
open Go.Proofs
variable {G : Glob}
theorem Zo7 (l : Bs) (i : Nat) (hi : i < (Zh l).1.length) : ((Zh l).1.getD i default).data.size ≤ l.length := by
 rw [List.getD_eq_getElem?_getD, List.getElem?_eq_getElem hi]
 exact Zlf l.length (l.length + 1) l 0 [] (Nat.le_refl _) (by simp) _ (List.getElem_mem hi)
theorem Znb {l : Bs} (h : (Z9 l).2 = 0) : (Z8 (Z9 l).1).1 = l ∧ (Z8 (Z9 l).1).2 = 0 := by
 unfold Z9 at h ⊢
 split at h
 ·rename_i q
  rw [if_pos q]
  exact ⟨Zgp ((Za9 _ _).1 q.2.2), q.2.1⟩
 ·exact absurd h (by decide)
def Zer (x : Entry) (f : Field) : Entry :=
  if f.tag = 1 then ⟨(Zq f.data).1, x.client, x.seq, x.text, x.head, x.claim⟩ else
  if f.tag = 2 then ⟨x.kind, (Zq f.data).1, x.seq, x.text, x.head, x.claim⟩ else
  if f.tag = 3 then ⟨x.kind, x.client, (Zq f.data).1, x.text, x.head, x.claim⟩ else
  if f.tag = 4 then ⟨x.kind, x.client, x.seq, f.data, x.head, x.claim⟩ else
  if f.tag = 5 then ⟨x.kind, x.client, x.seq, x.text, (Zb9 (bl f.data)).1, x.claim⟩ else
  if f.tag = 6 then ⟨x.kind, x.client, x.seq, x.text, x.head, (Z9 (bl f.data)).1⟩ else x
def Zdo : List Field → Entry → Entry
  | [], x => x
  | f :: fs, x => Zdo fs (Zer x f)
theorem Ztv {fs : List Field} {i : Nat} {x R : Entry} (hR : Zdo (fs.drop i) x = R) (hi : i < fs.length) : Zdo (fs.drop (i + 1)) (Zer x (fs.getD i default)) = R := by
 rw [Zmq fs i hi] at hR; exact hR
def Z4 (l : Bs) : Entry × Int := if (Zh l).2 = 0 ∧ (Zaf (Zdo (Zh l).1 ⟨0, 0, 0, ⟨#[]⟩, ⟨⟨0, 0, 0, dz, 0⟩, 0, dz⟩, ⟨0, 0, 0, 0, dz⟩⟩)).2 = 0 ∧ Zbq (Zl (Zaf (Zdo (Zh l).1 ⟨0, 0, 0, ⟨#[]⟩, ⟨⟨0, 0, 0, dz, 0⟩, 0, dz⟩, ⟨0, 0, 0, 0, dz⟩⟩)).1) (Zl l) = true then (Zdo (Zh l).1 ⟨0, 0, 0, ⟨#[]⟩, ⟨⟨0, 0, 0, dz, 0⟩, 0, dz⟩, ⟨0, 0, 0, 0, dz⟩⟩, 0) else (⟨0, 0, 0, ⟨#[]⟩, ⟨⟨0, 0, 0, dz, 0⟩, 0, dz⟩, ⟨0, 0, 0, 0, dz⟩⟩, 60)
theorem Zkk {l : Bs} (h : (Z4 l).2 = 0) : (Zaf (Z4 l).1).1 = l ∧ (Zaf (Z4 l).1).2 = 0 := by
 unfold Z4 at h ⊢
 split at h
 ·rename_i q
  rw [if_pos q]
  exact ⟨Zgp ((Za9 _ _).1 q.2.2), q.2.1⟩
 ·exact absurd h (by decide)
def Zix (x : Item) (f : Field) : Item :=
  if f.tag = 1 then ⟨(Zq f.data).1, x.entry⟩ else
  if f.tag = 2 then ⟨x.epoch, (Z4 (bl f.data)).1⟩ else x
def Zfj : List Field → Item → Item
  | [], x => x
  | f :: fs, x => Zfj fs (Zix x f)
theorem Zsy {fs : List Field} {i : Nat} {x R : Item} (hR : Zfj (fs.drop i) x = R) (hi : i < fs.length) : Zfj (fs.drop (i + 1)) (Zix x (fs.getD i default)) = R := by
 rw [Zmq fs i hi] at hR; exact hR
def Zal (l : Bs) : Item × Int := if (Zh l).2 = 0 ∧ (Z7 (Zfj (Zh l).1 ⟨0, ⟨0, 0, 0, ⟨#[]⟩, ⟨⟨0, 0, 0, dz, 0⟩, 0, dz⟩, ⟨0, 0, 0, 0, dz⟩⟩⟩)).2 = 0 ∧ Zbq (Zl (Z7 (Zfj (Zh l).1 ⟨0, ⟨0, 0, 0, ⟨#[]⟩, ⟨⟨0, 0, 0, dz, 0⟩, 0, dz⟩, ⟨0, 0, 0, 0, dz⟩⟩⟩)).1) (Zl l) = true then (Zfj (Zh l).1 ⟨0, ⟨0, 0, 0, ⟨#[]⟩, ⟨⟨0, 0, 0, dz, 0⟩, 0, dz⟩, ⟨0, 0, 0, 0, dz⟩⟩⟩, 0) else (⟨0, ⟨0, 0, 0, ⟨#[]⟩, ⟨⟨0, 0, 0, dz, 0⟩, 0, dz⟩, ⟨0, 0, 0, 0, dz⟩⟩⟩, 60)
theorem Zqf {l : Bs} (h : (Zal l).2 = 0) : (Z7 (Zal l).1).1 = l ∧ (Z7 (Zal l).1).2 = 0 := by
 unfold Zal at h ⊢
 split at h
 ·rename_i q
  rw [if_pos q]
  exact ⟨Zgp ((Za9 _ _).1 q.2.2), q.2.1⟩
 ·exact absurd h (by decide)
theorem Zv3 (l : Bs) (n c : Nat) (hn : l.length = n) (hc : n ≤ c) (hb : n ≤ 1048576) : Zao Tryd.prog G 20 [slv 0 0 n c] [rdB l] (.tuple #[Zz (Z9 l).1, Iv (Z9 l).2]) [rdB l] := by
 subst hn; exact Zjx (G := G) l c hc hb
theorem Z0y (x : Entry) (f : Field) (hs : f.data.size ≤ 1048576) : Zao Tryd.prog G 39 [pt 0 0, fdV f] [bxB 109 (Z2 x)] (.tuple #[]) [bxB 109 (Z2 (Zer x f))] := by
  refine Zbv (fn := Tryd.f39) (nt := 61) rfl rfl rfl rfl ?_
  refine Zat 2 (H' := [bxB 109 (Z2 x), hole, hole]) rfl ?_
  refine Zg (Zi ?_)
  refine Zel (v := fdV f) (b := bxB 2 (fdC f)) (nid := 1) (H' := [bxB 109 (Z2 x), bxB 2 (fdC f), hole]) rfl rfl rfl (by kernel_rfl) (by kernel_rfl) ?_
  refine Za (Zc (Zg (Zi ?_)))
  refine Zj (b := 1) (o := 0) (n := 0) (o' := 0) rfl rfl rfl rfl rfl ?_
  refine Zo (p := pt 1 0) (v := Iv f.tag) rfl rfl rfl (by kernel_rfl) ?_
  refine Za (Zc (Zap (Zg (Zi ?_))))
  by_cases h1 : f.tag = 1
  refine Zn (vx := Iv f.tag) (vy := Iv 1) rfl rfl (.bool true) rfl rfl (Zbs (by omega)) ?_
  refine Zb rfl rfl (.bool true) rfl (Za (Zc (Z0 rfl (Zi (Zd rfl rfl (pt 0 0) rfl ?_)))))
  refine Zj (b := 1) (o := 0) (n := 1) (o' := 1) rfl rfl rfl rfl rfl ?_
  refine Zo (p := pt 1 1) (v := .string f.data) rfl rfl rfl (by kernel_rfl) ?_
  refine Zs (Ze9 (G := G) f.data) (vals := [.string f.data]) (res' := Iv ((Zq f.data).1)) rfl rfl rfl rfl rfl rfl ?_
  refine Zag (p := pt 0 0) (v := pt 0 0) rfl rfl rfl rfl ?_
  refine Zj (b := 0) (o := 0) (n := 0) (o' := 0) rfl rfl rfl rfl rfl ?_
  refine Zr (p := pt 0 0) (v := Iv ((Zq f.data).1)) (b := 0) (blk := bxB 109 (Z2 (⟨((Zq f.data).1), x.client, x.seq, x.text, x.head, x.claim⟩ : Entry))) (H' := [bxB 109 (Z2 (⟨((Zq f.data).1), x.client, x.seq, x.text, x.head, x.claim⟩ : Entry)), bxB 2 (fdC f), hole]) rfl rfl rfl (by kernel_rfl) (by kernel_rfl) ?_
  refine Za (Z1 (Zdz ?_))
  rw [show Zer x f = (⟨((Zq f.data).1), x.client, x.seq, x.text, x.head, x.claim⟩ : Entry) from by unfold Zer; first | (rw [if_pos (by omega)]) | (rw [if_neg (by omega), if_pos (by omega)]) | (rw [if_neg (by omega), if_neg (by omega), if_pos (by omega)]) | (rw [if_neg (by omega), if_neg (by omega), if_neg (by omega), if_pos (by omega)]) | (rw [if_neg (by omega), if_neg (by omega), if_neg (by omega), if_neg (by omega), if_pos (by omega)]) | (rw [if_neg (by omega), if_neg (by omega), if_neg (by omega), if_neg (by omega), if_neg (by omega), if_pos (by omega)]) | (rw [if_neg (by omega), if_neg (by omega), if_neg (by omega), if_neg (by omega), if_neg (by omega), if_neg (by omega)])]
  exact Zm (v := .tuple #[]) rfl rfl rfl (by simp [Zac, bxB, Zej, Zcp]) trivial
  refine Zn (vx := Iv f.tag) (vy := Iv 1) rfl rfl (.bool false) rfl rfl (Zb6 (by omega)) ?_
  refine Zb rfl rfl (.bool false) rfl (Za (Zc (Zx rfl (Zg (Zi ?_)))))
  by_cases h2 : f.tag = 2
  refine Zn (vx := Iv f.tag) (vy := Iv 2) rfl rfl (.bool true) rfl rfl (Zbs (by omega)) ?_
  refine Zb rfl rfl (.bool true) rfl (Za (Zc (Z0 rfl (Zi (Zd rfl rfl (pt 0 0) rfl ?_)))))
  refine Zj (b := 1) (o := 0) (n := 1) (o' := 1) rfl rfl rfl rfl rfl ?_
  refine Zo (p := pt 1 1) (v := .string f.data) rfl rfl rfl (by kernel_rfl) ?_
  refine Zs (Ze9 (G := G) f.data) (vals := [.string f.data]) (res' := Iv ((Zq f.data).1)) rfl rfl rfl rfl rfl rfl ?_
  refine Zag (p := pt 0 0) (v := pt 0 0) rfl rfl rfl rfl ?_
  refine Zj (b := 0) (o := 0) (n := 1) (o' := 1) rfl rfl rfl rfl rfl ?_
  refine Zr (p := pt 0 1) (v := Iv ((Zq f.data).1)) (b := 0) (blk := bxB 109 (Z2 (⟨x.kind, ((Zq f.data).1), x.seq, x.text, x.head, x.claim⟩ : Entry))) (H' := [bxB 109 (Z2 (⟨x.kind, ((Zq f.data).1), x.seq, x.text, x.head, x.claim⟩ : Entry)), bxB 2 (fdC f), hole]) rfl rfl rfl (by kernel_rfl) (by kernel_rfl) ?_
  refine Za (Z1 (Zdz ?_))
  rw [show Zer x f = (⟨x.kind, ((Zq f.data).1), x.seq, x.text, x.head, x.claim⟩ : Entry) from by unfold Zer; first | (rw [if_pos (by omega)]) | (rw [if_neg (by omega), if_pos (by omega)]) | (rw [if_neg (by omega), if_neg (by omega), if_pos (by omega)]) | (rw [if_neg (by omega), if_neg (by omega), if_neg (by omega), if_pos (by omega)]) | (rw [if_neg (by omega), if_neg (by omega), if_neg (by omega), if_neg (by omega), if_pos (by omega)]) | (rw [if_neg (by omega), if_neg (by omega), if_neg (by omega), if_neg (by omega), if_neg (by omega), if_pos (by omega)]) | (rw [if_neg (by omega), if_neg (by omega), if_neg (by omega), if_neg (by omega), if_neg (by omega), if_neg (by omega)])]
  exact Zm (v := .tuple #[]) rfl rfl rfl (by simp [Zac, bxB, Zej, Zcp]) trivial
  refine Zn (vx := Iv f.tag) (vy := Iv 2) rfl rfl (.bool false) rfl rfl (Zb6 (by omega)) ?_
  refine Zb rfl rfl (.bool false) rfl (Za (Zc (Zx rfl (Zg (Zi ?_)))))
  by_cases h3 : f.tag = 3
  refine Zn (vx := Iv f.tag) (vy := Iv 3) rfl rfl (.bool true) rfl rfl (Zbs (by omega)) ?_
  refine Zb rfl rfl (.bool true) rfl (Za (Zc (Z0 rfl (Zi (Zd rfl rfl (pt 0 0) rfl ?_)))))
  refine Zj (b := 1) (o := 0) (n := 1) (o' := 1) rfl rfl rfl rfl rfl ?_
  refine Zo (p := pt 1 1) (v := .string f.data) rfl rfl rfl (by kernel_rfl) ?_
  refine Zs (Ze9 (G := G) f.data) (vals := [.string f.data]) (res' := Iv ((Zq f.data).1)) rfl rfl rfl rfl rfl rfl ?_
  refine Zag (p := pt 0 0) (v := pt 0 0) rfl rfl rfl rfl ?_
  refine Zj (b := 0) (o := 0) (n := 2) (o' := 2) rfl rfl rfl rfl rfl ?_
  refine Zr (p := pt 0 2) (v := Iv ((Zq f.data).1)) (b := 0) (blk := bxB 109 (Z2 (⟨x.kind, x.client, ((Zq f.data).1), x.text, x.head, x.claim⟩ : Entry))) (H' := [bxB 109 (Z2 (⟨x.kind, x.client, ((Zq f.data).1), x.text, x.head, x.claim⟩ : Entry)), bxB 2 (fdC f), hole]) rfl rfl rfl (by kernel_rfl) (by kernel_rfl) ?_
  refine Za (Z1 (Zdz ?_))
  rw [show Zer x f = (⟨x.kind, x.client, ((Zq f.data).1), x.text, x.head, x.claim⟩ : Entry) from by unfold Zer; first | (rw [if_pos (by omega)]) | (rw [if_neg (by omega), if_pos (by omega)]) | (rw [if_neg (by omega), if_neg (by omega), if_pos (by omega)]) | (rw [if_neg (by omega), if_neg (by omega), if_neg (by omega), if_pos (by omega)]) | (rw [if_neg (by omega), if_neg (by omega), if_neg (by omega), if_neg (by omega), if_pos (by omega)]) | (rw [if_neg (by omega), if_neg (by omega), if_neg (by omega), if_neg (by omega), if_neg (by omega), if_pos (by omega)]) | (rw [if_neg (by omega), if_neg (by omega), if_neg (by omega), if_neg (by omega), if_neg (by omega), if_neg (by omega)])]
  exact Zm (v := .tuple #[]) rfl rfl rfl (by simp [Zac, bxB, Zej, Zcp]) trivial
  refine Zn (vx := Iv f.tag) (vy := Iv 3) rfl rfl (.bool false) rfl rfl (Zb6 (by omega)) ?_
  refine Zb rfl rfl (.bool false) rfl (Za (Zc (Zx rfl (Zg (Zi ?_)))))
  by_cases h4 : f.tag = 4
  refine Zn (vx := Iv f.tag) (vy := Iv 4) rfl rfl (.bool true) rfl rfl (Zbs (by omega)) ?_
  refine Zb rfl rfl (.bool true) rfl (Za (Zc (Z0 rfl (Zi (Zd rfl rfl (pt 0 0) rfl ?_)))))
  refine Zj (b := 1) (o := 0) (n := 1) (o' := 1) rfl rfl rfl rfl rfl ?_
  refine Zo (p := pt 1 1) (v := .string f.data) rfl rfl rfl (by kernel_rfl) ?_
  refine Zag (p := pt 0 0) (v := pt 0 0) rfl rfl rfl rfl ?_
  refine Zj (b := 0) (o := 0) (n := 3) (o' := 3) rfl rfl rfl rfl rfl ?_
  refine Zr (p := pt 0 3) (v := .string f.data) (b := 0) (blk := bxB 109 (Z2 (⟨x.kind, x.client, x.seq, f.data, x.head, x.claim⟩ : Entry))) (H' := [bxB 109 (Z2 (⟨x.kind, x.client, x.seq, f.data, x.head, x.claim⟩ : Entry)), bxB 2 (fdC f), hole]) rfl rfl rfl (by kernel_rfl) (by kernel_rfl) ?_
  refine Za (Z1 (Zdz ?_))
  rw [show Zer x f = (⟨x.kind, x.client, x.seq, f.data, x.head, x.claim⟩ : Entry) from by unfold Zer; first | (rw [if_pos (by omega)]) | (rw [if_neg (by omega), if_pos (by omega)]) | (rw [if_neg (by omega), if_neg (by omega), if_pos (by omega)]) | (rw [if_neg (by omega), if_neg (by omega), if_neg (by omega), if_pos (by omega)]) | (rw [if_neg (by omega), if_neg (by omega), if_neg (by omega), if_neg (by omega), if_pos (by omega)]) | (rw [if_neg (by omega), if_neg (by omega), if_neg (by omega), if_neg (by omega), if_neg (by omega), if_pos (by omega)]) | (rw [if_neg (by omega), if_neg (by omega), if_neg (by omega), if_neg (by omega), if_neg (by omega), if_neg (by omega)])]
  exact Zm (v := .tuple #[]) rfl rfl rfl (by simp [Zac, bxB, Zej, Zcp]) trivial
  refine Zn (vx := Iv f.tag) (vy := Iv 4) rfl rfl (.bool false) rfl rfl (Zb6 (by omega)) ?_
  refine Zb rfl rfl (.bool false) rfl (Za (Zc (Zx rfl (Zg (Zi ?_)))))
  by_cases h5 : f.tag = 5
  refine Zn (vx := Iv f.tag) (vy := Iv 5) rfl rfl (.bool true) rfl rfl (Zbs (by omega)) ?_
  refine Zb rfl rfl (.bool true) rfl (Za (Zc (Z0 rfl (Zi (Zd rfl rfl (pt 0 0) rfl ?_)))))
  refine Zj (b := 1) (o := 0) (n := 1) (o' := 1) rfl rfl rfl rfl rfl ?_
  refine Zo (p := pt 1 1) (v := .string f.data) rfl rfl rfl (by kernel_rfl) ?_
  refine Zew (p := .string f.data) (v := slv 2 0 f.data.size f.data.size) (blk := Zy (bl f.data)) (nid := 2) (H' := [bxB 109 (Z2 x), bxB 2 (fdC f), Zy (bl f.data)]) rfl rfl rfl (Zfq rfl rfl rfl) (by kernel_rfl) ?_
  refine Zad (e := [some (2, 0)]) (nid := 0) (Zp5 (G := G) (bl f.data) f.data.size f.data.size (Zb5 f.data) (by omega) (by omega) (by rw [Zb5]; omega)) (vals := [slv 2 0 f.data.size f.data.size]) (v := .tuple #[Zaa ((Zb9 (bl f.data)).1), Iv ((Zb9 (bl f.data)).2)]) (H' := [bxB 109 (Z2 x), bxB 2 (fdC f), Zy (bl f.data)]) rfl rfl rfl rfl rfl rfl rfl ⟨⟨⟨rfl, rfl, rfl, by first | omega | exact Nat.le_refl _, by first | omega | exact Nat.le_refl _⟩, trivial⟩, ⟨(Ze1 rfl), trivial⟩, rfl, rfl, rfl⟩ (by kernel_rfl) (by kernel_rfl) ?_
  refine Zd rfl rfl (.tuple #[Zaa ((Zb9 (bl f.data)).1), Iv ((Zb9 (bl f.data)).2)]) rfl (Zt (vs := #[Zaa ((Zb9 (bl f.data)).1), Iv ((Zb9 (bl f.data)).2)]) (v := Zaa ((Zb9 (bl f.data)).1)) rfl rfl rfl rfl (Zt (vs := #[Zaa ((Zb9 (bl f.data)).1), Iv ((Zb9 (bl f.data)).2)]) (v := Iv ((Zb9 (bl f.data)).2)) rfl rfl rfl rfl ?_))
  refine Zag (p := pt 0 0) (v := pt 0 0) rfl rfl rfl rfl ?_
  refine Zj (b := 0) (o := 0) (n := 4) (o' := 4) rfl rfl rfl rfl rfl ?_
  refine Zr (p := pt 0 4) (v := Zaa ((Zb9 (bl f.data)).1)) (b := 0) (blk := bxB 109 (Z2 (⟨x.kind, x.client, x.seq, x.text, (Zb9 (bl f.data)).1, x.claim⟩ : Entry))) (H' := [bxB 109 (Z2 (⟨x.kind, x.client, x.seq, x.text, (Zb9 (bl f.data)).1, x.claim⟩ : Entry)), bxB 2 (fdC f), Zy (bl f.data)]) rfl rfl rfl (by kernel_rfl) (by kernel_rfl) ?_
  refine Za (Z1 (Zdz ?_))
  rw [show Zer x f = (⟨x.kind, x.client, x.seq, x.text, (Zb9 (bl f.data)).1, x.claim⟩ : Entry) from by unfold Zer; first | (rw [if_pos (by omega)]) | (rw [if_neg (by omega), if_pos (by omega)]) | (rw [if_neg (by omega), if_neg (by omega), if_pos (by omega)]) | (rw [if_neg (by omega), if_neg (by omega), if_neg (by omega), if_pos (by omega)]) | (rw [if_neg (by omega), if_neg (by omega), if_neg (by omega), if_neg (by omega), if_pos (by omega)]) | (rw [if_neg (by omega), if_neg (by omega), if_neg (by omega), if_neg (by omega), if_neg (by omega), if_pos (by omega)]) | (rw [if_neg (by omega), if_neg (by omega), if_neg (by omega), if_neg (by omega), if_neg (by omega), if_neg (by omega)])]
  exact Zm (v := .tuple #[]) rfl rfl rfl (by simp [Zac, bxB, Zej, Zcp]) trivial
  refine Zn (vx := Iv f.tag) (vy := Iv 5) rfl rfl (.bool false) rfl rfl (Zb6 (by omega)) ?_
  refine Zb rfl rfl (.bool false) rfl (Za (Zc (Zx rfl (Zg (Zi ?_)))))
  by_cases h6 : f.tag = 6
  refine Zn (vx := Iv f.tag) (vy := Iv 6) rfl rfl (.bool true) rfl rfl (Zbs (by omega)) ?_
  refine Zb rfl rfl (.bool true) rfl (Za (Zc (Z0 rfl (Zi (Zd rfl rfl (pt 0 0) rfl ?_)))))
  refine Zj (b := 1) (o := 0) (n := 1) (o' := 1) rfl rfl rfl rfl rfl ?_
  refine Zo (p := pt 1 1) (v := .string f.data) rfl rfl rfl (by kernel_rfl) ?_
  refine Zew (p := .string f.data) (v := slv 2 0 f.data.size f.data.size) (blk := Zy (bl f.data)) (nid := 2) (H' := [bxB 109 (Z2 x), bxB 2 (fdC f), Zy (bl f.data)]) rfl rfl rfl (Zfq rfl rfl rfl) (by kernel_rfl) ?_
  have hbl2 := Zb5 f.data
  refine Zad (e := [some (2, 0)]) (nid := 0) (Zv3 (G := G) (bl f.data) f.data.size f.data.size (Zb5 f.data) (by omega) (by omega)) (vals := [slv 2 0 f.data.size f.data.size]) (v := .tuple #[Zz ((Z9 (bl f.data)).1), Iv ((Z9 (bl f.data)).2)]) (H' := [bxB 109 (Z2 x), bxB 2 (fdC f), Zy (bl f.data)]) rfl rfl rfl rfl rfl rfl rfl ⟨⟨⟨rfl, rfl, rfl, by first | omega | exact Nat.le_refl _, by first | omega | exact Nat.le_refl _⟩, trivial⟩, ⟨(Ze1 rfl), trivial⟩, rfl, rfl, rfl⟩ (by kernel_rfl) (by kernel_rfl) ?_
  refine Zd rfl rfl (.tuple #[Zz ((Z9 (bl f.data)).1), Iv ((Z9 (bl f.data)).2)]) rfl (Zt (vs := #[Zz ((Z9 (bl f.data)).1), Iv ((Z9 (bl f.data)).2)]) (v := Zz ((Z9 (bl f.data)).1)) rfl rfl rfl rfl (Zt (vs := #[Zz ((Z9 (bl f.data)).1), Iv ((Z9 (bl f.data)).2)]) (v := Iv ((Z9 (bl f.data)).2)) rfl rfl rfl rfl ?_))
  refine Zag (p := pt 0 0) (v := pt 0 0) rfl rfl rfl rfl ?_
  refine Zj (b := 0) (o := 0) (n := 73) (o' := 73) rfl rfl rfl rfl rfl ?_
  refine Zr (p := pt 0 73) (v := Zz ((Z9 (bl f.data)).1)) (b := 0) (blk := bxB 109 (Z2 (⟨x.kind, x.client, x.seq, x.text, x.head, (Z9 (bl f.data)).1⟩ : Entry))) (H' := [bxB 109 (Z2 (⟨x.kind, x.client, x.seq, x.text, x.head, (Z9 (bl f.data)).1⟩ : Entry)), bxB 2 (fdC f), Zy (bl f.data)]) rfl rfl rfl (by kernel_rfl) (by kernel_rfl) ?_
  refine Za (Z1 (Zdz ?_))
  rw [show Zer x f = (⟨x.kind, x.client, x.seq, x.text, x.head, (Z9 (bl f.data)).1⟩ : Entry) from by unfold Zer; first | (rw [if_pos (by omega)]) | (rw [if_neg (by omega), if_pos (by omega)]) | (rw [if_neg (by omega), if_neg (by omega), if_pos (by omega)]) | (rw [if_neg (by omega), if_neg (by omega), if_neg (by omega), if_pos (by omega)]) | (rw [if_neg (by omega), if_neg (by omega), if_neg (by omega), if_neg (by omega), if_pos (by omega)]) | (rw [if_neg (by omega), if_neg (by omega), if_neg (by omega), if_neg (by omega), if_neg (by omega), if_pos (by omega)]) | (rw [if_neg (by omega), if_neg (by omega), if_neg (by omega), if_neg (by omega), if_neg (by omega), if_neg (by omega)])]
  exact Zm (v := .tuple #[]) rfl rfl rfl (by simp [Zac, bxB, Zej, Zcp]) trivial
  refine Zn (vx := Iv f.tag) (vy := Iv 6) rfl rfl (.bool false) rfl rfl (Zb6 (by omega)) ?_
  refine Zb rfl rfl (.bool false) rfl (Za (Zc (Zx rfl (Zai (Z1 (Zdz ?_))))))
  rw [show Zer x f = x from by unfold Zer; first | (rw [if_pos (by omega)]) | (rw [if_neg (by omega), if_pos (by omega)]) | (rw [if_neg (by omega), if_neg (by omega), if_pos (by omega)]) | (rw [if_neg (by omega), if_neg (by omega), if_neg (by omega), if_pos (by omega)]) | (rw [if_neg (by omega), if_neg (by omega), if_neg (by omega), if_neg (by omega), if_pos (by omega)]) | (rw [if_neg (by omega), if_neg (by omega), if_neg (by omega), if_neg (by omega), if_neg (by omega), if_pos (by omega)]) | (rw [if_neg (by omega), if_neg (by omega), if_neg (by omega), if_neg (by omega), if_neg (by omega), if_neg (by omega)])]
  exact Zm (v := .tuple #[]) rfl rfl rfl (by simp [Zac, bxB, Zej, Zcp]) trivial
theorem Z2s (l : Bs) (c : Nat) (hc : l.length ≤ c) (hb : l.length ≤ 1048576) : Zao Tryd.prog G 38 [slv 0 0 l.length c, .func (.func 39) #[] #[], .func (.func 8) #[] #[]] [rdB l] (.tuple #[Zaz (Z4 l).1, Iv (Z4 l).2]) [rdB l] := by
  refine Zbv (fn := Tryd.f38) (nt := 50) rfl rfl rfl rfl ?_
  refine Zat 4 (H' := [rdB l, hole, hole, hole, hole]) rfl ?_
  refine Zg (Zi ?_)
  refine Zae (b := bxB 109 (Z2 (⟨0, 0, 0, ⟨#[]⟩, (⟨(⟨0, 0, 0, dz, 0⟩ : Head), 0, dz⟩ : Signed), (⟨0, 0, 0, 0, dz⟩ : Claim)⟩ : Entry))) (nid := 1) (H' := [rdB l, bxB 109 (Z2 (⟨0, 0, 0, ⟨#[]⟩, (⟨(⟨0, 0, 0, dz, 0⟩ : Head), 0, dz⟩ : Signed), (⟨0, 0, 0, 0, dz⟩ : Claim)⟩ : Entry)), hole, hole, hole]) rfl rfl (by kernel_rfl) (by kernel_rfl) ?_
  refine Zb rfl rfl (Iv 0) rfl (Za (Zc (Zg (Zi ?_))))
  refine Zae (b := bxB 109 (Z2 (⟨0, 0, 0, ⟨#[]⟩, (⟨(⟨0, 0, 0, dz, 0⟩ : Head), 0, dz⟩ : Signed), (⟨0, 0, 0, 0, dz⟩ : Claim)⟩ : Entry))) (nid := 2) (H' := [rdB l, bxB 109 (Z2 (⟨0, 0, 0, ⟨#[]⟩, (⟨(⟨0, 0, 0, dz, 0⟩ : Head), 0, dz⟩ : Signed), (⟨0, 0, 0, 0, dz⟩ : Claim)⟩ : Entry)), bxB 109 (Z2 (⟨0, 0, 0, ⟨#[]⟩, (⟨(⟨0, 0, 0, dz, 0⟩ : Head), 0, dz⟩ : Signed), (⟨0, 0, 0, 0, dz⟩ : Claim)⟩ : Entry)), hole, hole]) rfl rfl (by kernel_rfl) (by kernel_rfl) ?_
  refine Zae (b := bxB 109 (Z2 (⟨0, 0, 0, ⟨#[]⟩, (⟨(⟨0, 0, 0, dz, 0⟩ : Head), 0, dz⟩ : Signed), (⟨0, 0, 0, 0, dz⟩ : Claim)⟩ : Entry))) (nid := 3) (H' := [rdB l, bxB 109 (Z2 (⟨0, 0, 0, ⟨#[]⟩, (⟨(⟨0, 0, 0, dz, 0⟩ : Head), 0, dz⟩ : Signed), (⟨0, 0, 0, 0, dz⟩ : Claim)⟩ : Entry)), bxB 109 (Z2 (⟨0, 0, 0, ⟨#[]⟩, (⟨(⟨0, 0, 0, dz, 0⟩ : Head), 0, dz⟩ : Signed), (⟨0, 0, 0, 0, dz⟩ : Claim)⟩ : Entry)), bxB 109 (Z2 (⟨0, 0, 0, ⟨#[]⟩, (⟨(⟨0, 0, 0, dz, 0⟩ : Head), 0, dz⟩ : Signed), (⟨0, 0, 0, 0, dz⟩ : Claim)⟩ : Entry)), hole]) rfl rfl (by kernel_rfl) (by kernel_rfl) ?_
  refine Za (Zc (Zg (Zi (Zd rfl rfl (slv 0 0 l.length c) rfl ?_))))
  have hrl3 := Zk1 l
  refine Zad (e := [some (0, 0)]) (nid := 4) (Zof (G := G) l c (by omega) (by omega)) (vals := [slv 0 0 l.length c]) (v := .tuple #[slv 4 0 ((Zh l).1.length) ((Zh l).1.length), Iv ((Zh l).2)]) (H' := [rdB l, bxB 109 (Z2 (⟨0, 0, 0, ⟨#[]⟩, (⟨(⟨0, 0, 0, dz, 0⟩ : Head), 0, dz⟩ : Signed), (⟨0, 0, 0, 0, dz⟩ : Claim)⟩ : Entry)), bxB 109 (Z2 (⟨0, 0, 0, ⟨#[]⟩, (⟨(⟨0, 0, 0, dz, 0⟩ : Head), 0, dz⟩ : Signed), (⟨0, 0, 0, 0, dz⟩ : Claim)⟩ : Entry)), bxB 109 (Z2 (⟨0, 0, 0, ⟨#[]⟩, (⟨(⟨0, 0, 0, dz, 0⟩ : Head), 0, dz⟩ : Signed), (⟨0, 0, 0, 0, dz⟩ : Claim)⟩ : Entry)), rwB cFd ((Zh l).1)]) rfl rfl rfl rfl rfl rfl rfl ⟨⟨⟨rfl, rfl, rfl, by first | omega | exact Nat.le_refl _, by first | omega | exact Nat.le_refl _⟩, trivial⟩, ⟨(Zdk rfl), trivial⟩, rfl, rfl, rfl⟩ (by kernel_rfl) (by kernel_rfl) ?_
  refine Zd rfl rfl (.tuple #[slv 4 0 ((Zh l).1.length) ((Zh l).1.length), Iv ((Zh l).2)]) rfl (Zt (vs := #[slv 4 0 ((Zh l).1.length) ((Zh l).1.length), Iv ((Zh l).2)]) (v := slv 4 0 ((Zh l).1.length) ((Zh l).1.length)) rfl rfl rfl rfl (Zt (vs := #[slv 4 0 ((Zh l).1.length) ((Zh l).1.length), Iv ((Zh l).2)]) (v := Iv ((Zh l).2)) rfl rfl rfl rfl (Zb rfl rfl (slv 4 0 ((Zh l).1.length) ((Zh l).1.length)) rfl (Zb rfl rfl (Iv ((Zh l).2)) rfl (Za (Zc (Zg (Zg (Zi (Zd rfl rfl (slv 4 0 ((Zh l).1.length) ((Zh l).1.length)) rfl ?_))))))))))
  refine Zb7 (p := slv 4 0 ((Zh l).1.length) ((Zh l).1.length)) (v := Iv ((((Zh l).1.length) : Nat) : Int)) rfl rfl rfl rfl ?_
  refine Zd rfl rfl (Iv 0) rfl (Za (Zc (Zap ?_)))
  refine Zb8 (fun x : Nat × Entry => match x with | (i, x) => [slv 0 0 l.length c, .func (.func 39) #[] #[], .func (.func 8) #[] #[], dead, dead, dead, pt 1 0, Iv 0, pt 2 0, pt 3 0, slv 4 0 ((Zh l).1.length) ((Zh l).1.length), Iv ((Zh l).2), dead, dead, dead, dead, .tuple #[slv 4 0 ((Zh l).1.length) ((Zh l).1.length), Iv ((Zh l).2)], slv 0 0 l.length c, .tuple #[slv 4 0 ((Zh l).1.length) ((Zh l).1.length), Iv ((Zh l).2)], slv 4 0 ((Zh l).1.length) ((Zh l).1.length), Iv ((Zh l).2), slv 4 0 ((Zh l).1.length) ((Zh l).1.length), Iv ((((Zh l).1.length) : Nat) : Int), Iv (i : Nat)]) (fun x : Nat × Entry => match x with | (i, x) => [rdB l, bxB 109 (Z2 (⟨0, 0, 0, ⟨#[]⟩, (⟨(⟨0, 0, 0, dz, 0⟩ : Head), 0, dz⟩ : Signed), (⟨0, 0, 0, 0, dz⟩ : Claim)⟩ : Entry)), bxB 109 (Z2 x), bxB 109 (Z2 (⟨0, 0, 0, ⟨#[]⟩, (⟨(⟨0, 0, 0, dz, 0⟩ : Head), 0, dz⟩ : Signed), (⟨0, 0, 0, 0, dz⟩ : Claim)⟩ : Entry)), rwB cFd ((Zh l).1)]) (fun x : Nat × Entry => match x with | (i, x) => Zdo ((Zh l).1.drop i) x = Zdo (Zh l).1 ⟨0, 0, 0, ⟨#[]⟩, ⟨⟨0, 0, 0, dz, 0⟩, 0, dz⟩, ⟨0, 0, 0, 0, dz⟩⟩ ∧ i ≤ (Zh l).1.length) (fun x : Nat × Entry => match x with | (i, x) => (Zh l).1.length - i) (0, ⟨0, 0, 0, ⟨#[]⟩, ⟨⟨0, 0, 0, dz, 0⟩, 0, dz⟩, ⟨0, 0, 0, 0, dz⟩⟩) ⟨rfl, Nat.zero_le _⟩ ?_ ?_
  · refine Zaq (n := 5) rfl ?_ (by kernel_rfl) (by kernel_rfl)
    repeat (first | exact trivial | refine ⟨.inl rfl, ?_⟩ | refine ⟨.inr ⟨rfl, rfl⟩, ?_⟩ | refine ⟨.inr ⟨congrArg (Value.int .i64) (by first | omega | (dsimp only; omega)), rfl⟩, ?_⟩)
  rintro ⟨i, x⟩ ⟨hR, hi⟩
  dsimp only at *
  refine Zat 1 (H' := [rdB l, bxB 109 (Z2 (⟨0, 0, 0, ⟨#[]⟩, (⟨(⟨0, 0, 0, dz, 0⟩ : Head), 0, dz⟩ : Signed), (⟨0, 0, 0, 0, dz⟩ : Claim)⟩ : Entry)), bxB 109 (Z2 x), bxB 109 (Z2 (⟨0, 0, 0, ⟨#[]⟩, (⟨(⟨0, 0, 0, dz, 0⟩ : Head), 0, dz⟩ : Signed), (⟨0, 0, 0, 0, dz⟩ : Claim)⟩ : Entry)), rwB cFd ((Zh l).1), hole]) rfl ?_
  refine Zg (Zi ?_)
  by_cases h1 : (i : Nat) < ((((Zh l).1.length) : Nat) : Int)
  refine Zn (vx := Iv (i : Nat)) (vy := Iv ((((Zh l).1.length) : Nat) : Int)) rfl rfl (.bool true) rfl rfl (Zdt (by omega)) ?_
  refine Za (Zc (Zg (Z0 rfl (Zai (Zc (Zg (Zap (Zg (Zi ?_)))))))))
  refine Zbk (b := 4) (o := 0) (j := i * 2) (m := ((Zh l).1.length)) (c := ((Zh l).1.length)) (sz := 2) (i := (i : Nat)) (k := .i64) rfl rfl rfl rfl rfl (by omega) (by omega) (by omega) ?_
  refine Zo (p := pt 4 (i * 2)) (v := fdV (((Zh l).1).getD i default)) rfl rfl rfl (Zk0 (n := 0) (m := 2) cFd rfl rfl rfl rfl (by omega) (by omega)) ?_
  refine Zae (b := bxB 2 (fdC (⟨0, ⟨#[]⟩⟩ : Field))) (nid := 5) (H' := [rdB l, bxB 109 (Z2 (⟨0, 0, 0, ⟨#[]⟩, (⟨(⟨0, 0, 0, dz, 0⟩ : Head), 0, dz⟩ : Signed), (⟨0, 0, 0, 0, dz⟩ : Claim)⟩ : Entry)), bxB 109 (Z2 x), bxB 109 (Z2 (⟨0, 0, 0, ⟨#[]⟩, (⟨(⟨0, 0, 0, dz, 0⟩ : Head), 0, dz⟩ : Signed), (⟨0, 0, 0, 0, dz⟩ : Claim)⟩ : Entry)), rwB cFd ((Zh l).1), bxB 2 (fdC (⟨0, ⟨#[]⟩⟩ : Field))]) rfl rfl (by kernel_rfl) (by kernel_rfl) ?_
  refine Zr (p := pt 5 0) (v := fdV (((Zh l).1).getD i default)) (b := 5) (blk := bxB 2 (fdC (((Zh l).1).getD i default))) (H' := [rdB l, bxB 109 (Z2 (⟨0, 0, 0, ⟨#[]⟩, (⟨(⟨0, 0, 0, dz, 0⟩ : Head), 0, dz⟩ : Signed), (⟨0, 0, 0, 0, dz⟩ : Claim)⟩ : Entry)), bxB 109 (Z2 x), bxB 109 (Z2 (⟨0, 0, 0, ⟨#[]⟩, (⟨(⟨0, 0, 0, dz, 0⟩ : Head), 0, dz⟩ : Signed), (⟨0, 0, 0, 0, dz⟩ : Claim)⟩ : Entry)), rwB cFd ((Zh l).1), bxB 2 (fdC (((Zh l).1).getD i default))]) rfl rfl rfl (by kernel_rfl) (by kernel_rfl) ?_
  refine Za (Zc (Zi (Zd rfl rfl (.func (.func 39) #[] #[]) rfl ?_)))
  refine Zo (p := pt 5 0) (v := fdV (((Zh l).1).getD i default)) rfl rfl rfl (by kernel_rfl) ?_
  refine Zad (e := [some (2, 0)]) (nid := 0) (Z0y (G := G) x (((Zh l).1).getD i default) (by have := Zo7 l i (by omega); omega)) (vals := [pt 2 0, fdV (((Zh l).1).getD i default)]) (v := .tuple #[]) (H' := [rdB l, bxB 109 (Z2 (⟨0, 0, 0, ⟨#[]⟩, (⟨(⟨0, 0, 0, dz, 0⟩ : Head), 0, dz⟩ : Signed), (⟨0, 0, 0, 0, dz⟩ : Claim)⟩ : Entry)), bxB 109 (Z2 (Zer x (((Zh l).1).getD i default))), bxB 109 (Z2 (⟨0, 0, 0, ⟨#[]⟩, (⟨(⟨0, 0, 0, dz, 0⟩ : Head), 0, dz⟩ : Signed), (⟨0, 0, 0, 0, dz⟩ : Claim)⟩ : Entry)), rwB cFd ((Zh l).1), bxB 2 (fdC (((Zh l).1).getD i default))]) rfl rfl rfl rfl rfl rfl rfl ⟨⟨⟨rfl, rfl⟩, rfl, trivial⟩, ⟨(Zay rfl rfl rfl rfl), trivial⟩, rfl, rfl, rfl⟩ (by kernel_rfl) (by kernel_rfl) ?_
  refine Za (Z1 (Zc (Zi ?_)))
  refine Zn (vx := Iv (i : Nat)) (vy := Iv 1) rfl rfl (Iv ((i : Nat) + 1)) rfl rfl (Za7 (by omega) (by omega) (by omega)) ?_
  refine Zd rfl rfl (Iv ((i : Nat) + 1)) rfl (Za ?_)
  refine Zau ⟨((i + 1), (Zer x (((Zh l).1).getD i default))), ⟨Ztv hR (by omega), by dsimp only; omega⟩, by show (Zh l).1.length - (i + 1) < (Zh l).1.length - i; omega, ?_⟩
  refine Zaq (n := 5) rfl ?_ (by kernel_rfl) (by kernel_rfl)
  repeat (first | exact trivial | refine ⟨.inl rfl, ?_⟩ | refine ⟨.inr ⟨rfl, rfl⟩, ?_⟩ | refine ⟨.inr ⟨congrArg (Value.int .i64) (by first | omega | (dsimp only; omega)), rfl⟩, ?_⟩)
  refine Zn (vx := Iv (i : Nat)) (vy := Iv ((((Zh l).1.length) : Nat) : Int)) rfl rfl (.bool false) rfl rfl (Zdh (by omega)) ?_
  refine Za (Zc (Zg (Zx rfl (Zce (Zbj (Zbo (Zbp rfl (Zc (Zg (Zg (Zi (Zd rfl rfl (.func (.func 8) #[] #[]) rfl ?_))))))))))))
  refine Zo (p := pt 2 0) (v := Zaz x) rfl rfl rfl (by kernel_rfl) ?_
  refine Zad (e := []) (nid := 5) (Zr6 (G := G) x) (vals := [Zaz x]) (v := .tuple #[slv 5 0 ((Zaf x).1.length) ((Zaf x).1.length), Iv ((Zaf x).2)]) (H' := [rdB l, bxB 109 (Z2 (⟨0, 0, 0, ⟨#[]⟩, (⟨(⟨0, 0, 0, dz, 0⟩ : Head), 0, dz⟩ : Signed), (⟨0, 0, 0, 0, dz⟩ : Claim)⟩ : Entry)), bxB 109 (Z2 x), bxB 109 (Z2 (⟨0, 0, 0, ⟨#[]⟩, (⟨(⟨0, 0, 0, dz, 0⟩ : Head), 0, dz⟩ : Signed), (⟨0, 0, 0, 0, dz⟩ : Claim)⟩ : Entry)), rwB cFd ((Zh l).1), Zy ((Zaf x).1)]) rfl rfl rfl rfl rfl rfl rfl ⟨⟨rfl, trivial⟩, trivial, rfl, rfl, rfl⟩ (by kernel_rfl) (by kernel_rfl) ?_
  refine Zd rfl rfl (.tuple #[slv 5 0 ((Zaf x).1.length) ((Zaf x).1.length), Iv ((Zaf x).2)]) rfl (Zt (vs := #[slv 5 0 ((Zaf x).1.length) ((Zaf x).1.length), Iv ((Zaf x).2)]) (v := slv 5 0 ((Zaf x).1.length) ((Zaf x).1.length)) rfl rfl rfl rfl (Zt (vs := #[slv 5 0 ((Zaf x).1.length) ((Zaf x).1.length), Iv ((Zaf x).2)]) (v := Iv ((Zaf x).2)) rfl rfl rfl rfl (Zb rfl rfl (slv 5 0 ((Zaf x).1.length) ((Zaf x).1.length)) rfl (Zb rfl rfl (Iv ((Zaf x).2)) rfl (Za (Zc (Zg (Zi (Zd rfl rfl (Iv ((Zh l).2)) rfl ?_)))))))))
  by_cases h2 : ((Zh l).2) = 0
  refine Zn (vx := Iv ((Zh l).2)) (vy := Iv 0) rfl rfl (.bool true) rfl rfl (Zbs (by omega)) ?_
  refine Zd rfl rfl (.bool true) rfl (Zd rfl rfl (Iv ((Zaf x).2)) rfl ?_)
  by_cases h3 : ((Zaf x).2) = 0
  refine Zn (vx := Iv ((Zaf x).2)) (vy := Iv 0) rfl rfl (.bool true) rfl rfl (Zbs (by omega)) ?_
  refine Zk rfl rfl (.bool true) rfl (Zd rfl rfl (.bool true) rfl (Zd rfl rfl (slv 5 0 ((Zaf x).1.length) ((Zaf x).1.length)) rfl (Zd rfl rfl (slv 0 0 l.length c) rfl ?_)))
  refine Zad (e := [some (5, 0), some (0, 0)]) (nid := 0) (Zlh (G := G) ((Zaf x).1) l ((Zaf x).1.length) ((Zaf x).1.length) l.length c rfl rfl (by omega) (by omega)) (vals := [slv 5 0 ((Zaf x).1.length) ((Zaf x).1.length), slv 0 0 l.length c]) (v := .bool (Zbq (Zl ((Zaf x).1)) (Zl l))) (H' := [rdB l, bxB 109 (Z2 (⟨0, 0, 0, ⟨#[]⟩, (⟨(⟨0, 0, 0, dz, 0⟩ : Head), 0, dz⟩ : Signed), (⟨0, 0, 0, 0, dz⟩ : Claim)⟩ : Entry)), bxB 109 (Z2 x), bxB 109 (Z2 (⟨0, 0, 0, ⟨#[]⟩, (⟨(⟨0, 0, 0, dz, 0⟩ : Head), 0, dz⟩ : Signed), (⟨0, 0, 0, 0, dz⟩ : Claim)⟩ : Entry)), rwB cFd ((Zh l).1), Zy ((Zaf x).1)]) rfl rfl rfl rfl rfl rfl rfl ⟨⟨⟨rfl, rfl, rfl, by first | omega | exact Nat.le_refl _, by first | omega | exact Nat.le_refl _⟩, ⟨rfl, rfl, rfl, by first | omega | exact Nat.le_refl _, by first | omega | exact Nat.le_refl _⟩, trivial⟩, ⟨(Ze1 rfl), (Zdk rfl), trivial⟩, rfl, rfl, rfl⟩ rfl (by kernel_rfl) ?_
  refine Zk rfl rfl (.bool (Zbq (Zl ((Zaf x).1)) (Zl l))) rfl (Za (Zc ?_))
  rcases Bool.eq_false_or_eq_true (Zbq (Zl ((Zaf x).1)) (Zl l)) with h4 | h4
  refine Z0 (congrArg Value.bool h4) (Zg (Zi ?_))
  refine Zo (p := pt 2 0) (v := Zaz x) rfl rfl rfl (by kernel_rfl) ?_
  refine Zr (p := pt 1 0) (v := Zaz x) (b := 1) (blk := bxB 109 (Z2 x)) (H' := [rdB l, bxB 109 (Z2 x), bxB 109 (Z2 x), bxB 109 (Z2 (⟨0, 0, 0, ⟨#[]⟩, (⟨(⟨0, 0, 0, dz, 0⟩ : Head), 0, dz⟩ : Signed), (⟨0, 0, 0, 0, dz⟩ : Claim)⟩ : Entry)), rwB cFd ((Zh l).1), Zy ((Zaf x).1)]) rfl rfl rfl (by kernel_rfl) (by kernel_rfl) ?_
  refine Zb rfl rfl (Iv 0) rfl (Za (Zc (Zv (Z5 (Zu ?_)))))
  have hx : x = Zdo (Zh l).1 ⟨0, 0, 0, ⟨#[]⟩, ⟨⟨0, 0, 0, dz, 0⟩, 0, dz⟩, ⟨0, 0, 0, 0, dz⟩⟩ := by rw [← hR, List.drop_of_length_le (by omega)]; rfl
  rw [show Z4 l = (x, 0) from by unfold Z4; rw [← hx]; exact if_pos ⟨by omega, by omega, by assumption⟩]
  exact Zm (v := .tuple #[Zaz x, Iv 0]) (by kernel_rfl) rfl rfl (by simp [Zac, rdB]) ⟨(Zbd (by kernel_rfl) rfl), rfl, trivial⟩
  refine Zx (congrArg Value.bool h4) (Zai (Zc (Zg (Zi ?_))))
  refine Zo (p := pt 3 0) (v := Zaz (⟨0, 0, 0, ⟨#[]⟩, (⟨(⟨0, 0, 0, dz, 0⟩ : Head), 0, dz⟩ : Signed), (⟨0, 0, 0, 0, dz⟩ : Claim)⟩ : Entry)) rfl rfl rfl (by kernel_rfl) ?_
  refine Zr (p := pt 1 0) (v := Zaz (⟨0, 0, 0, ⟨#[]⟩, (⟨(⟨0, 0, 0, dz, 0⟩ : Head), 0, dz⟩ : Signed), (⟨0, 0, 0, 0, dz⟩ : Claim)⟩ : Entry)) (b := 1) (blk := bxB 109 (Z2 (⟨0, 0, 0, ⟨#[]⟩, (⟨(⟨0, 0, 0, dz, 0⟩ : Head), 0, dz⟩ : Signed), (⟨0, 0, 0, 0, dz⟩ : Claim)⟩ : Entry))) (H' := [rdB l, bxB 109 (Z2 (⟨0, 0, 0, ⟨#[]⟩, (⟨(⟨0, 0, 0, dz, 0⟩ : Head), 0, dz⟩ : Signed), (⟨0, 0, 0, 0, dz⟩ : Claim)⟩ : Entry)), bxB 109 (Z2 x), bxB 109 (Z2 (⟨0, 0, 0, ⟨#[]⟩, (⟨(⟨0, 0, 0, dz, 0⟩ : Head), 0, dz⟩ : Signed), (⟨0, 0, 0, 0, dz⟩ : Claim)⟩ : Entry)), rwB cFd ((Zh l).1), Zy ((Zaf x).1)]) rfl rfl rfl (by kernel_rfl) (by kernel_rfl) ?_
  refine Zb rfl rfl (Iv 60) rfl (Za (Zc (Zv (Zu ?_))))
  have hx : x = Zdo (Zh l).1 ⟨0, 0, 0, ⟨#[]⟩, ⟨⟨0, 0, 0, dz, 0⟩, 0, dz⟩, ⟨0, 0, 0, 0, dz⟩⟩ := by rw [← hR, List.drop_of_length_le (by omega)]; rfl
  rw [show Z4 l = (⟨0, 0, 0, ⟨#[]⟩, ⟨⟨0, 0, 0, dz, 0⟩, 0, dz⟩, ⟨0, 0, 0, 0, dz⟩⟩, 60) from by unfold Z4; rw [← hx]; exact if_neg (fun q => by have q1 := q.1; have q2 := q.2.1; have q3 := q.2.2; first | omega | (simp_all; done))]
  exact Zm (v := .tuple #[Zaz (⟨0, 0, 0, ⟨#[]⟩, (⟨(⟨0, 0, 0, dz, 0⟩ : Head), 0, dz⟩ : Signed), (⟨0, 0, 0, 0, dz⟩ : Claim)⟩ : Entry), Iv 60]) (by kernel_rfl) rfl rfl (by simp [Zac, rdB]) ⟨(Zbd (by kernel_rfl) rfl), rfl, trivial⟩
  refine Zn (vx := Iv ((Zaf x).2)) (vy := Iv 0) rfl rfl (.bool false) rfl rfl (Zb6 (by omega)) ?_
  refine Zk rfl rfl (.bool false) rfl (Zd rfl rfl (.bool false) rfl (Zf rfl rfl (Zf rfl rfl (Zf rfl rfl (Zk rfl rfl (.bool false) rfl (Za (Zc (Zx rfl (Zai (Zc (Zg (Zi ?_))))))))))))
  refine Zo (p := pt 3 0) (v := Zaz (⟨0, 0, 0, ⟨#[]⟩, (⟨(⟨0, 0, 0, dz, 0⟩ : Head), 0, dz⟩ : Signed), (⟨0, 0, 0, 0, dz⟩ : Claim)⟩ : Entry)) rfl rfl rfl (by kernel_rfl) ?_
  refine Zr (p := pt 1 0) (v := Zaz (⟨0, 0, 0, ⟨#[]⟩, (⟨(⟨0, 0, 0, dz, 0⟩ : Head), 0, dz⟩ : Signed), (⟨0, 0, 0, 0, dz⟩ : Claim)⟩ : Entry)) (b := 1) (blk := bxB 109 (Z2 (⟨0, 0, 0, ⟨#[]⟩, (⟨(⟨0, 0, 0, dz, 0⟩ : Head), 0, dz⟩ : Signed), (⟨0, 0, 0, 0, dz⟩ : Claim)⟩ : Entry))) (H' := [rdB l, bxB 109 (Z2 (⟨0, 0, 0, ⟨#[]⟩, (⟨(⟨0, 0, 0, dz, 0⟩ : Head), 0, dz⟩ : Signed), (⟨0, 0, 0, 0, dz⟩ : Claim)⟩ : Entry)), bxB 109 (Z2 x), bxB 109 (Z2 (⟨0, 0, 0, ⟨#[]⟩, (⟨(⟨0, 0, 0, dz, 0⟩ : Head), 0, dz⟩ : Signed), (⟨0, 0, 0, 0, dz⟩ : Claim)⟩ : Entry)), rwB cFd ((Zh l).1), Zy ((Zaf x).1)]) rfl rfl rfl (by kernel_rfl) (by kernel_rfl) ?_
  refine Zb rfl rfl (Iv 60) rfl (Za (Zc (Zv (Zu ?_))))
  have hx : x = Zdo (Zh l).1 ⟨0, 0, 0, ⟨#[]⟩, ⟨⟨0, 0, 0, dz, 0⟩, 0, dz⟩, ⟨0, 0, 0, 0, dz⟩⟩ := by rw [← hR, List.drop_of_length_le (by omega)]; rfl
  rw [show Z4 l = (⟨0, 0, 0, ⟨#[]⟩, ⟨⟨0, 0, 0, dz, 0⟩, 0, dz⟩, ⟨0, 0, 0, 0, dz⟩⟩, 60) from by unfold Z4; rw [← hx]; exact if_neg (fun q => by have q1 := q.1; have q2 := q.2.1; have q3 := q.2.2; first | omega | (simp_all; done))]
  exact Zm (v := .tuple #[Zaz (⟨0, 0, 0, ⟨#[]⟩, (⟨(⟨0, 0, 0, dz, 0⟩ : Head), 0, dz⟩ : Signed), (⟨0, 0, 0, 0, dz⟩ : Claim)⟩ : Entry), Iv 60]) (by kernel_rfl) rfl rfl (by simp [Zac, rdB]) ⟨(Zbd (by kernel_rfl) rfl), rfl, trivial⟩
  refine Zn (vx := Iv ((Zh l).2)) (vy := Iv 0) rfl rfl (.bool false) rfl rfl (Zb6 (by omega)) ?_
  refine Zd rfl rfl (.bool false) rfl (Zf rfl rfl (Zf rfl rfl (Zk rfl rfl (.bool false) rfl (Zd rfl rfl (.bool false) rfl (Zf rfl rfl (Zf rfl rfl (Zf rfl rfl (Zk rfl rfl (.bool false) rfl (Za (Zc (Zx rfl (Zai (Zc (Zg (Zi ?_)))))))))))))))
  refine Zo (p := pt 3 0) (v := Zaz (⟨0, 0, 0, ⟨#[]⟩, (⟨(⟨0, 0, 0, dz, 0⟩ : Head), 0, dz⟩ : Signed), (⟨0, 0, 0, 0, dz⟩ : Claim)⟩ : Entry)) rfl rfl rfl (by kernel_rfl) ?_
  refine Zr (p := pt 1 0) (v := Zaz (⟨0, 0, 0, ⟨#[]⟩, (⟨(⟨0, 0, 0, dz, 0⟩ : Head), 0, dz⟩ : Signed), (⟨0, 0, 0, 0, dz⟩ : Claim)⟩ : Entry)) (b := 1) (blk := bxB 109 (Z2 (⟨0, 0, 0, ⟨#[]⟩, (⟨(⟨0, 0, 0, dz, 0⟩ : Head), 0, dz⟩ : Signed), (⟨0, 0, 0, 0, dz⟩ : Claim)⟩ : Entry))) (H' := [rdB l, bxB 109 (Z2 (⟨0, 0, 0, ⟨#[]⟩, (⟨(⟨0, 0, 0, dz, 0⟩ : Head), 0, dz⟩ : Signed), (⟨0, 0, 0, 0, dz⟩ : Claim)⟩ : Entry)), bxB 109 (Z2 x), bxB 109 (Z2 (⟨0, 0, 0, ⟨#[]⟩, (⟨(⟨0, 0, 0, dz, 0⟩ : Head), 0, dz⟩ : Signed), (⟨0, 0, 0, 0, dz⟩ : Claim)⟩ : Entry)), rwB cFd ((Zh l).1), Zy ((Zaf x).1)]) rfl rfl rfl (by kernel_rfl) (by kernel_rfl) ?_
  refine Zb rfl rfl (Iv 60) rfl (Za (Zc (Zv (Zu ?_))))
  have hx : x = Zdo (Zh l).1 ⟨0, 0, 0, ⟨#[]⟩, ⟨⟨0, 0, 0, dz, 0⟩, 0, dz⟩, ⟨0, 0, 0, 0, dz⟩⟩ := by rw [← hR, List.drop_of_length_le (by omega)]; rfl
  rw [show Z4 l = (⟨0, 0, 0, ⟨#[]⟩, ⟨⟨0, 0, 0, dz, 0⟩, 0, dz⟩, ⟨0, 0, 0, 0, dz⟩⟩, 60) from by unfold Z4; rw [← hx]; exact if_neg (fun q => by have q1 := q.1; have q2 := q.2.1; have q3 := q.2.2; first | omega | (simp_all; done))]
  exact Zm (v := .tuple #[Zaz (⟨0, 0, 0, ⟨#[]⟩, (⟨(⟨0, 0, 0, dz, 0⟩ : Head), 0, dz⟩ : Signed), (⟨0, 0, 0, 0, dz⟩ : Claim)⟩ : Entry), Iv 60]) (by kernel_rfl) rfl rfl (by simp [Zac, rdB]) ⟨(Zbd (by kernel_rfl) rfl), rfl, trivial⟩
theorem Zw1 (l : Bs) (c : Nat) (hc : l.length ≤ c) (hb : l.length ≤ 1048576) : Zao Tryd.prog G 12 [slv 0 0 l.length c] [rdB l] (.tuple #[Zaz (Z4 l).1, Iv (Z4 l).2]) [rdB l] := by
  refine Zbv (fn := Tryd.f12) (nt := 8) rfl rfl rfl rfl ?_
  refine Zat 1 (H' := [rdB l, hole]) rfl ?_
  refine Zg (Zi ?_)
  refine Zae (b := bxB 109 (Z2 (⟨0, 0, 0, ⟨#[]⟩, (⟨(⟨0, 0, 0, dz, 0⟩ : Head), 0, dz⟩ : Signed), (⟨0, 0, 0, 0, dz⟩ : Claim)⟩ : Entry))) (nid := 1) (H' := [rdB l, bxB 109 (Z2 (⟨0, 0, 0, ⟨#[]⟩, (⟨(⟨0, 0, 0, dz, 0⟩ : Head), 0, dz⟩ : Signed), (⟨0, 0, 0, 0, dz⟩ : Claim)⟩ : Entry))]) rfl rfl (by kernel_rfl) (by kernel_rfl) ?_
  refine Zb rfl rfl (Iv 0) rfl (Za (Zc (Zg (Zi (Zd rfl rfl (slv 0 0 l.length c) rfl ?_)))))
  refine Zad (e := [some (0, 0)]) (nid := 0) (Z2s (G := G) l c (by omega) (by omega)) (vals := [slv 0 0 l.length c, .func (.func 39) #[] #[], .func (.func 8) #[] #[]]) (v := .tuple #[Zaz ((Z4 l).1), Iv ((Z4 l).2)]) (H' := [rdB l, bxB 109 (Z2 (⟨0, 0, 0, ⟨#[]⟩, (⟨(⟨0, 0, 0, dz, 0⟩ : Head), 0, dz⟩ : Signed), (⟨0, 0, 0, 0, dz⟩ : Claim)⟩ : Entry))]) rfl rfl rfl rfl rfl rfl rfl ⟨⟨⟨rfl, rfl, rfl, by first | omega | exact Nat.le_refl _, by first | omega | exact Nat.le_refl _⟩, ⟨by simp [Zdq, Zct], by kernel_rfl⟩, ⟨by simp [Zdq, Zct], by kernel_rfl⟩, trivial⟩, ⟨(Zdk rfl), trivial⟩, rfl, rfl, rfl⟩ (by kernel_rfl) (by kernel_rfl) ?_
  refine Zt (vs := #[Zaz ((Z4 l).1), Iv ((Z4 l).2)]) (v := Zaz ((Z4 l).1)) rfl rfl rfl rfl (Zt (vs := #[Zaz ((Z4 l).1), Iv ((Z4 l).2)]) (v := Iv ((Z4 l).2)) rfl rfl rfl rfl ?_)
  refine Zr (p := pt 1 0) (v := Zaz ((Z4 l).1)) (b := 1) (blk := bxB 109 (Z2 ((Z4 l).1))) (H' := [rdB l, bxB 109 (Z2 ((Z4 l).1))]) rfl rfl rfl (by kernel_rfl) (by kernel_rfl) ?_
  refine Zb rfl rfl (Iv ((Z4 l).2)) rfl (Za (Zc (Zv (Zu ?_))))
  exact Zm (v := .tuple #[Zaz ((Z4 l).1), Iv ((Z4 l).2)]) (by kernel_rfl) rfl rfl (by simp [Zac, rdB]) ⟨(Zbd (by kernel_rfl) rfl), rfl, trivial⟩
theorem Z3w (l : Bs) (n c : Nat) (hn : l.length = n) (hc : n ≤ c) (hb : n ≤ 1048576) : Zao Tryd.prog G 12 [slv 0 0 n c] [rdB l] (.tuple #[Zaz (Z4 l).1, Iv (Z4 l).2]) [rdB l] := by
 subst hn; exact Zw1 (G := G) l c hc hb
theorem Z1c (x : Item) (f : Field) (hs : f.data.size ≤ 1048576) : Zao Tryd.prog G 45 [pt 0 0, fdV f] [bxB 110 (Zab x)] (.tuple #[]) [bxB 110 (Zab (Zix x f))] := by
  refine Zbv (fn := Tryd.f45) (nt := 26) rfl rfl rfl rfl ?_
  refine Zat 2 (H' := [bxB 110 (Zab x), hole, hole]) rfl ?_
  refine Zg (Zi ?_)
  refine Zel (v := fdV f) (b := bxB 2 (fdC f)) (nid := 1) (H' := [bxB 110 (Zab x), bxB 2 (fdC f), hole]) rfl rfl rfl (by kernel_rfl) (by kernel_rfl) ?_
  refine Za (Zc (Zg (Zi ?_)))
  refine Zj (b := 1) (o := 0) (n := 0) (o' := 0) rfl rfl rfl rfl rfl ?_
  refine Zo (p := pt 1 0) (v := Iv f.tag) rfl rfl rfl (by kernel_rfl) ?_
  refine Za (Zc (Zap (Zg (Zi ?_))))
  by_cases h1 : f.tag = 1
  refine Zn (vx := Iv f.tag) (vy := Iv 1) rfl rfl (.bool true) rfl rfl (Zbs (by omega)) ?_
  refine Zb rfl rfl (.bool true) rfl (Za (Zc (Z0 rfl (Zi (Zd rfl rfl (pt 0 0) rfl ?_)))))
  refine Zj (b := 1) (o := 0) (n := 1) (o' := 1) rfl rfl rfl rfl rfl ?_
  refine Zo (p := pt 1 1) (v := .string f.data) rfl rfl rfl (by kernel_rfl) ?_
  refine Zs (Ze9 (G := G) f.data) (vals := [.string f.data]) (res' := Iv ((Zq f.data).1)) rfl rfl rfl rfl rfl rfl ?_
  refine Zag (p := pt 0 0) (v := pt 0 0) rfl rfl rfl rfl ?_
  refine Zj (b := 0) (o := 0) (n := 0) (o' := 0) rfl rfl rfl rfl rfl ?_
  refine Zr (p := pt 0 0) (v := Iv ((Zq f.data).1)) (b := 0) (blk := bxB 110 (Zab (⟨((Zq f.data).1), x.entry⟩ : Item))) (H' := [bxB 110 (Zab (⟨((Zq f.data).1), x.entry⟩ : Item)), bxB 2 (fdC f), hole]) rfl rfl rfl (by kernel_rfl) (by kernel_rfl) ?_
  refine Za (Z1 (Zdz ?_))
  rw [show Zix x f = (⟨((Zq f.data).1), x.entry⟩ : Item) from by unfold Zix; first | (rw [if_pos (by omega)]) | (rw [if_neg (by omega), if_pos (by omega)]) | (rw [if_neg (by omega), if_neg (by omega)])]
  exact Zm (v := .tuple #[]) rfl rfl rfl (by simp [Zac, bxB, Zej, Zcp]) trivial
  refine Zn (vx := Iv f.tag) (vy := Iv 1) rfl rfl (.bool false) rfl rfl (Zb6 (by omega)) ?_
  refine Zb rfl rfl (.bool false) rfl (Za (Zc (Zx rfl (Zg (Zi ?_)))))
  by_cases h2 : f.tag = 2
  refine Zn (vx := Iv f.tag) (vy := Iv 2) rfl rfl (.bool true) rfl rfl (Zbs (by omega)) ?_
  refine Zb rfl rfl (.bool true) rfl (Za (Zc (Z0 rfl (Zi (Zd rfl rfl (pt 0 0) rfl ?_)))))
  refine Zj (b := 1) (o := 0) (n := 1) (o' := 1) rfl rfl rfl rfl rfl ?_
  refine Zo (p := pt 1 1) (v := .string f.data) rfl rfl rfl (by kernel_rfl) ?_
  refine Zew (p := .string f.data) (v := slv 2 0 f.data.size f.data.size) (blk := Zy (bl f.data)) (nid := 2) (H' := [bxB 110 (Zab x), bxB 2 (fdC f), Zy (bl f.data)]) rfl rfl rfl (Zfq rfl rfl rfl) (by kernel_rfl) ?_
  refine Zad (e := [some (2, 0)]) (nid := 0) (Z3w (G := G) (bl f.data) f.data.size f.data.size (Zb5 f.data) (by omega) (by omega)) (vals := [slv 2 0 f.data.size f.data.size]) (v := .tuple #[Zaz ((Z4 (bl f.data)).1), Iv ((Z4 (bl f.data)).2)]) (H' := [bxB 110 (Zab x), bxB 2 (fdC f), Zy (bl f.data)]) rfl rfl rfl rfl rfl rfl rfl ⟨⟨⟨rfl, rfl, rfl, by first | omega | exact Nat.le_refl _, by first | omega | exact Nat.le_refl _⟩, trivial⟩, ⟨(Ze1 rfl), trivial⟩, rfl, rfl, rfl⟩ (by kernel_rfl) (by kernel_rfl) ?_
  refine Zd rfl rfl (.tuple #[Zaz ((Z4 (bl f.data)).1), Iv ((Z4 (bl f.data)).2)]) rfl (Zt (vs := #[Zaz ((Z4 (bl f.data)).1), Iv ((Z4 (bl f.data)).2)]) (v := Zaz ((Z4 (bl f.data)).1)) rfl rfl rfl rfl (Zt (vs := #[Zaz ((Z4 (bl f.data)).1), Iv ((Z4 (bl f.data)).2)]) (v := Iv ((Z4 (bl f.data)).2)) rfl rfl rfl rfl ?_))
  refine Zag (p := pt 0 0) (v := pt 0 0) rfl rfl rfl rfl ?_
  refine Zj (b := 0) (o := 0) (n := 1) (o' := 1) rfl rfl rfl rfl rfl ?_
  refine Zr (p := pt 0 1) (v := Zaz ((Z4 (bl f.data)).1)) (b := 0) (blk := bxB 110 (Zab (⟨x.epoch, (Z4 (bl f.data)).1⟩ : Item))) (H' := [bxB 110 (Zab (⟨x.epoch, (Z4 (bl f.data)).1⟩ : Item)), bxB 2 (fdC f), Zy (bl f.data)]) rfl rfl rfl (by kernel_rfl) (by kernel_rfl) ?_
  refine Za (Z1 (Zdz ?_))
  rw [show Zix x f = (⟨x.epoch, (Z4 (bl f.data)).1⟩ : Item) from by unfold Zix; first | (rw [if_pos (by omega)]) | (rw [if_neg (by omega), if_pos (by omega)]) | (rw [if_neg (by omega), if_neg (by omega)])]
  exact Zm (v := .tuple #[]) rfl rfl rfl (by simp [Zac, bxB, Zej, Zcp]) trivial
  refine Zn (vx := Iv f.tag) (vy := Iv 2) rfl rfl (.bool false) rfl rfl (Zb6 (by omega)) ?_
  refine Zb rfl rfl (.bool false) rfl (Za (Zc (Zx rfl (Zai (Z1 (Zdz ?_))))))
  rw [show Zix x f = x from by unfold Zix; first | (rw [if_pos (by omega)]) | (rw [if_neg (by omega), if_pos (by omega)]) | (rw [if_neg (by omega), if_neg (by omega)])]
  exact Zm (v := .tuple #[]) rfl rfl rfl (by simp [Zac, bxB, Zej, Zcp]) trivial
theorem Z3f (l : Bs) (c : Nat) (hc : l.length ≤ c) (hb : l.length ≤ 1048576) : Zao Tryd.prog G 44 [slv 0 0 l.length c, .func (.func 45) #[] #[], .func (.func 13) #[] #[]] [rdB l] (.tuple #[Za4 (Zal l).1, Iv (Zal l).2]) [rdB l] := by
  refine Zbv (fn := Tryd.f44) (nt := 50) rfl rfl rfl rfl ?_
  refine Zat 4 (H' := [rdB l, hole, hole, hole, hole]) rfl ?_
  refine Zg (Zi ?_)
  refine Zae (b := bxB 110 (Zab (⟨0, (⟨0, 0, 0, ⟨#[]⟩, (⟨(⟨0, 0, 0, dz, 0⟩ : Head), 0, dz⟩ : Signed), (⟨0, 0, 0, 0, dz⟩ : Claim)⟩ : Entry)⟩ : Item))) (nid := 1) (H' := [rdB l, bxB 110 (Zab (⟨0, (⟨0, 0, 0, ⟨#[]⟩, (⟨(⟨0, 0, 0, dz, 0⟩ : Head), 0, dz⟩ : Signed), (⟨0, 0, 0, 0, dz⟩ : Claim)⟩ : Entry)⟩ : Item)), hole, hole, hole]) rfl rfl (by kernel_rfl) (by kernel_rfl) ?_
  refine Zb rfl rfl (Iv 0) rfl (Za (Zc (Zg (Zi ?_))))
  refine Zae (b := bxB 110 (Zab (⟨0, (⟨0, 0, 0, ⟨#[]⟩, (⟨(⟨0, 0, 0, dz, 0⟩ : Head), 0, dz⟩ : Signed), (⟨0, 0, 0, 0, dz⟩ : Claim)⟩ : Entry)⟩ : Item))) (nid := 2) (H' := [rdB l, bxB 110 (Zab (⟨0, (⟨0, 0, 0, ⟨#[]⟩, (⟨(⟨0, 0, 0, dz, 0⟩ : Head), 0, dz⟩ : Signed), (⟨0, 0, 0, 0, dz⟩ : Claim)⟩ : Entry)⟩ : Item)), bxB 110 (Zab (⟨0, (⟨0, 0, 0, ⟨#[]⟩, (⟨(⟨0, 0, 0, dz, 0⟩ : Head), 0, dz⟩ : Signed), (⟨0, 0, 0, 0, dz⟩ : Claim)⟩ : Entry)⟩ : Item)), hole, hole]) rfl rfl (by kernel_rfl) (by kernel_rfl) ?_
  refine Zae (b := bxB 110 (Zab (⟨0, (⟨0, 0, 0, ⟨#[]⟩, (⟨(⟨0, 0, 0, dz, 0⟩ : Head), 0, dz⟩ : Signed), (⟨0, 0, 0, 0, dz⟩ : Claim)⟩ : Entry)⟩ : Item))) (nid := 3) (H' := [rdB l, bxB 110 (Zab (⟨0, (⟨0, 0, 0, ⟨#[]⟩, (⟨(⟨0, 0, 0, dz, 0⟩ : Head), 0, dz⟩ : Signed), (⟨0, 0, 0, 0, dz⟩ : Claim)⟩ : Entry)⟩ : Item)), bxB 110 (Zab (⟨0, (⟨0, 0, 0, ⟨#[]⟩, (⟨(⟨0, 0, 0, dz, 0⟩ : Head), 0, dz⟩ : Signed), (⟨0, 0, 0, 0, dz⟩ : Claim)⟩ : Entry)⟩ : Item)), bxB 110 (Zab (⟨0, (⟨0, 0, 0, ⟨#[]⟩, (⟨(⟨0, 0, 0, dz, 0⟩ : Head), 0, dz⟩ : Signed), (⟨0, 0, 0, 0, dz⟩ : Claim)⟩ : Entry)⟩ : Item)), hole]) rfl rfl (by kernel_rfl) (by kernel_rfl) ?_
  refine Za (Zc (Zg (Zi (Zd rfl rfl (slv 0 0 l.length c) rfl ?_))))
  have hrl3 := Zk1 l
  refine Zad (e := [some (0, 0)]) (nid := 4) (Zof (G := G) l c (by omega) (by omega)) (vals := [slv 0 0 l.length c]) (v := .tuple #[slv 4 0 ((Zh l).1.length) ((Zh l).1.length), Iv ((Zh l).2)]) (H' := [rdB l, bxB 110 (Zab (⟨0, (⟨0, 0, 0, ⟨#[]⟩, (⟨(⟨0, 0, 0, dz, 0⟩ : Head), 0, dz⟩ : Signed), (⟨0, 0, 0, 0, dz⟩ : Claim)⟩ : Entry)⟩ : Item)), bxB 110 (Zab (⟨0, (⟨0, 0, 0, ⟨#[]⟩, (⟨(⟨0, 0, 0, dz, 0⟩ : Head), 0, dz⟩ : Signed), (⟨0, 0, 0, 0, dz⟩ : Claim)⟩ : Entry)⟩ : Item)), bxB 110 (Zab (⟨0, (⟨0, 0, 0, ⟨#[]⟩, (⟨(⟨0, 0, 0, dz, 0⟩ : Head), 0, dz⟩ : Signed), (⟨0, 0, 0, 0, dz⟩ : Claim)⟩ : Entry)⟩ : Item)), rwB cFd ((Zh l).1)]) rfl rfl rfl rfl rfl rfl rfl ⟨⟨⟨rfl, rfl, rfl, by first | omega | exact Nat.le_refl _, by first | omega | exact Nat.le_refl _⟩, trivial⟩, ⟨(Zdk rfl), trivial⟩, rfl, rfl, rfl⟩ (by kernel_rfl) (by kernel_rfl) ?_
  refine Zd rfl rfl (.tuple #[slv 4 0 ((Zh l).1.length) ((Zh l).1.length), Iv ((Zh l).2)]) rfl (Zt (vs := #[slv 4 0 ((Zh l).1.length) ((Zh l).1.length), Iv ((Zh l).2)]) (v := slv 4 0 ((Zh l).1.length) ((Zh l).1.length)) rfl rfl rfl rfl (Zt (vs := #[slv 4 0 ((Zh l).1.length) ((Zh l).1.length), Iv ((Zh l).2)]) (v := Iv ((Zh l).2)) rfl rfl rfl rfl (Zb rfl rfl (slv 4 0 ((Zh l).1.length) ((Zh l).1.length)) rfl (Zb rfl rfl (Iv ((Zh l).2)) rfl (Za (Zc (Zg (Zg (Zi (Zd rfl rfl (slv 4 0 ((Zh l).1.length) ((Zh l).1.length)) rfl ?_))))))))))
  refine Zb7 (p := slv 4 0 ((Zh l).1.length) ((Zh l).1.length)) (v := Iv ((((Zh l).1.length) : Nat) : Int)) rfl rfl rfl rfl ?_
  refine Zd rfl rfl (Iv 0) rfl (Za (Zc (Zap ?_)))
  refine Zb8 (fun x : Nat × Item => match x with | (i, x) => [slv 0 0 l.length c, .func (.func 45) #[] #[], .func (.func 13) #[] #[], dead, dead, dead, pt 1 0, Iv 0, pt 2 0, pt 3 0, slv 4 0 ((Zh l).1.length) ((Zh l).1.length), Iv ((Zh l).2), dead, dead, dead, dead, .tuple #[slv 4 0 ((Zh l).1.length) ((Zh l).1.length), Iv ((Zh l).2)], slv 0 0 l.length c, .tuple #[slv 4 0 ((Zh l).1.length) ((Zh l).1.length), Iv ((Zh l).2)], slv 4 0 ((Zh l).1.length) ((Zh l).1.length), Iv ((Zh l).2), slv 4 0 ((Zh l).1.length) ((Zh l).1.length), Iv ((((Zh l).1.length) : Nat) : Int), Iv (i : Nat)]) (fun x : Nat × Item => match x with | (i, x) => [rdB l, bxB 110 (Zab (⟨0, (⟨0, 0, 0, ⟨#[]⟩, (⟨(⟨0, 0, 0, dz, 0⟩ : Head), 0, dz⟩ : Signed), (⟨0, 0, 0, 0, dz⟩ : Claim)⟩ : Entry)⟩ : Item)), bxB 110 (Zab x), bxB 110 (Zab (⟨0, (⟨0, 0, 0, ⟨#[]⟩, (⟨(⟨0, 0, 0, dz, 0⟩ : Head), 0, dz⟩ : Signed), (⟨0, 0, 0, 0, dz⟩ : Claim)⟩ : Entry)⟩ : Item)), rwB cFd ((Zh l).1)]) (fun x : Nat × Item => match x with | (i, x) => Zfj ((Zh l).1.drop i) x = Zfj (Zh l).1 ⟨0, ⟨0, 0, 0, ⟨#[]⟩, ⟨⟨0, 0, 0, dz, 0⟩, 0, dz⟩, ⟨0, 0, 0, 0, dz⟩⟩⟩ ∧ i ≤ (Zh l).1.length) (fun x : Nat × Item => match x with | (i, x) => (Zh l).1.length - i) (0, ⟨0, ⟨0, 0, 0, ⟨#[]⟩, ⟨⟨0, 0, 0, dz, 0⟩, 0, dz⟩, ⟨0, 0, 0, 0, dz⟩⟩⟩) ⟨rfl, Nat.zero_le _⟩ ?_ ?_
  · refine Zaq (n := 5) rfl ?_ (by kernel_rfl) (by kernel_rfl)
    repeat (first | exact trivial | refine ⟨.inl rfl, ?_⟩ | refine ⟨.inr ⟨rfl, rfl⟩, ?_⟩ | refine ⟨.inr ⟨congrArg (Value.int .i64) (by first | omega | (dsimp only; omega)), rfl⟩, ?_⟩)
  rintro ⟨i, x⟩ ⟨hR, hi⟩
  dsimp only at *
  refine Zat 1 (H' := [rdB l, bxB 110 (Zab (⟨0, (⟨0, 0, 0, ⟨#[]⟩, (⟨(⟨0, 0, 0, dz, 0⟩ : Head), 0, dz⟩ : Signed), (⟨0, 0, 0, 0, dz⟩ : Claim)⟩ : Entry)⟩ : Item)), bxB 110 (Zab x), bxB 110 (Zab (⟨0, (⟨0, 0, 0, ⟨#[]⟩, (⟨(⟨0, 0, 0, dz, 0⟩ : Head), 0, dz⟩ : Signed), (⟨0, 0, 0, 0, dz⟩ : Claim)⟩ : Entry)⟩ : Item)), rwB cFd ((Zh l).1), hole]) rfl ?_
  refine Zg (Zi ?_)
  by_cases h1 : (i : Nat) < ((((Zh l).1.length) : Nat) : Int)
  refine Zn (vx := Iv (i : Nat)) (vy := Iv ((((Zh l).1.length) : Nat) : Int)) rfl rfl (.bool true) rfl rfl (Zdt (by omega)) ?_
  refine Za (Zc (Zg (Z0 rfl (Zai (Zc (Zg (Zap (Zg (Zi ?_)))))))))
  refine Zbk (b := 4) (o := 0) (j := i * 2) (m := ((Zh l).1.length)) (c := ((Zh l).1.length)) (sz := 2) (i := (i : Nat)) (k := .i64) rfl rfl rfl rfl rfl (by omega) (by omega) (by omega) ?_
  refine Zo (p := pt 4 (i * 2)) (v := fdV (((Zh l).1).getD i default)) rfl rfl rfl (Zk0 (n := 0) (m := 2) cFd rfl rfl rfl rfl (by omega) (by omega)) ?_
  refine Zae (b := bxB 2 (fdC (⟨0, ⟨#[]⟩⟩ : Field))) (nid := 5) (H' := [rdB l, bxB 110 (Zab (⟨0, (⟨0, 0, 0, ⟨#[]⟩, (⟨(⟨0, 0, 0, dz, 0⟩ : Head), 0, dz⟩ : Signed), (⟨0, 0, 0, 0, dz⟩ : Claim)⟩ : Entry)⟩ : Item)), bxB 110 (Zab x), bxB 110 (Zab (⟨0, (⟨0, 0, 0, ⟨#[]⟩, (⟨(⟨0, 0, 0, dz, 0⟩ : Head), 0, dz⟩ : Signed), (⟨0, 0, 0, 0, dz⟩ : Claim)⟩ : Entry)⟩ : Item)), rwB cFd ((Zh l).1), bxB 2 (fdC (⟨0, ⟨#[]⟩⟩ : Field))]) rfl rfl (by kernel_rfl) (by kernel_rfl) ?_
  refine Zr (p := pt 5 0) (v := fdV (((Zh l).1).getD i default)) (b := 5) (blk := bxB 2 (fdC (((Zh l).1).getD i default))) (H' := [rdB l, bxB 110 (Zab (⟨0, (⟨0, 0, 0, ⟨#[]⟩, (⟨(⟨0, 0, 0, dz, 0⟩ : Head), 0, dz⟩ : Signed), (⟨0, 0, 0, 0, dz⟩ : Claim)⟩ : Entry)⟩ : Item)), bxB 110 (Zab x), bxB 110 (Zab (⟨0, (⟨0, 0, 0, ⟨#[]⟩, (⟨(⟨0, 0, 0, dz, 0⟩ : Head), 0, dz⟩ : Signed), (⟨0, 0, 0, 0, dz⟩ : Claim)⟩ : Entry)⟩ : Item)), rwB cFd ((Zh l).1), bxB 2 (fdC (((Zh l).1).getD i default))]) rfl rfl rfl (by kernel_rfl) (by kernel_rfl) ?_
  refine Za (Zc (Zi (Zd rfl rfl (.func (.func 45) #[] #[]) rfl ?_)))
  refine Zo (p := pt 5 0) (v := fdV (((Zh l).1).getD i default)) rfl rfl rfl (by kernel_rfl) ?_
  refine Zad (e := [some (2, 0)]) (nid := 0) (Z1c (G := G) x (((Zh l).1).getD i default) (by have := Zo7 l i (by omega); omega)) (vals := [pt 2 0, fdV (((Zh l).1).getD i default)]) (v := .tuple #[]) (H' := [rdB l, bxB 110 (Zab (⟨0, (⟨0, 0, 0, ⟨#[]⟩, (⟨(⟨0, 0, 0, dz, 0⟩ : Head), 0, dz⟩ : Signed), (⟨0, 0, 0, 0, dz⟩ : Claim)⟩ : Entry)⟩ : Item)), bxB 110 (Zab (Zix x (((Zh l).1).getD i default))), bxB 110 (Zab (⟨0, (⟨0, 0, 0, ⟨#[]⟩, (⟨(⟨0, 0, 0, dz, 0⟩ : Head), 0, dz⟩ : Signed), (⟨0, 0, 0, 0, dz⟩ : Claim)⟩ : Entry)⟩ : Item)), rwB cFd ((Zh l).1), bxB 2 (fdC (((Zh l).1).getD i default))]) rfl rfl rfl rfl rfl rfl rfl ⟨⟨⟨rfl, rfl⟩, rfl, trivial⟩, ⟨(Zay rfl rfl rfl rfl), trivial⟩, rfl, rfl, rfl⟩ (by kernel_rfl) (by kernel_rfl) ?_
  refine Za (Z1 (Zc (Zi ?_)))
  refine Zn (vx := Iv (i : Nat)) (vy := Iv 1) rfl rfl (Iv ((i : Nat) + 1)) rfl rfl (Za7 (by omega) (by omega) (by omega)) ?_
  refine Zd rfl rfl (Iv ((i : Nat) + 1)) rfl (Za ?_)
  refine Zau ⟨((i + 1), (Zix x (((Zh l).1).getD i default))), ⟨Zsy hR (by omega), by dsimp only; omega⟩, by show (Zh l).1.length - (i + 1) < (Zh l).1.length - i; omega, ?_⟩
  refine Zaq (n := 5) rfl ?_ (by kernel_rfl) (by kernel_rfl)
  repeat (first | exact trivial | refine ⟨.inl rfl, ?_⟩ | refine ⟨.inr ⟨rfl, rfl⟩, ?_⟩ | refine ⟨.inr ⟨congrArg (Value.int .i64) (by first | omega | (dsimp only; omega)), rfl⟩, ?_⟩)
  refine Zn (vx := Iv (i : Nat)) (vy := Iv ((((Zh l).1.length) : Nat) : Int)) rfl rfl (.bool false) rfl rfl (Zdh (by omega)) ?_
  refine Za (Zc (Zg (Zx rfl (Zce (Zbj (Zbo (Zbp rfl (Zc (Zg (Zg (Zi (Zd rfl rfl (.func (.func 13) #[] #[]) rfl ?_))))))))))))
  refine Zo (p := pt 2 0) (v := Za4 x) rfl rfl rfl (by kernel_rfl) ?_
  refine Zad (e := []) (nid := 5) (Zi8 (G := G) x) (vals := [Za4 x]) (v := .tuple #[slv 5 0 ((Z7 x).1.length) ((Z7 x).1.length), Iv ((Z7 x).2)]) (H' := [rdB l, bxB 110 (Zab (⟨0, (⟨0, 0, 0, ⟨#[]⟩, (⟨(⟨0, 0, 0, dz, 0⟩ : Head), 0, dz⟩ : Signed), (⟨0, 0, 0, 0, dz⟩ : Claim)⟩ : Entry)⟩ : Item)), bxB 110 (Zab x), bxB 110 (Zab (⟨0, (⟨0, 0, 0, ⟨#[]⟩, (⟨(⟨0, 0, 0, dz, 0⟩ : Head), 0, dz⟩ : Signed), (⟨0, 0, 0, 0, dz⟩ : Claim)⟩ : Entry)⟩ : Item)), rwB cFd ((Zh l).1), Zy ((Z7 x).1)]) rfl rfl rfl rfl rfl rfl rfl ⟨⟨rfl, trivial⟩, trivial, rfl, rfl, rfl⟩ (by kernel_rfl) (by kernel_rfl) ?_
  refine Zd rfl rfl (.tuple #[slv 5 0 ((Z7 x).1.length) ((Z7 x).1.length), Iv ((Z7 x).2)]) rfl (Zt (vs := #[slv 5 0 ((Z7 x).1.length) ((Z7 x).1.length), Iv ((Z7 x).2)]) (v := slv 5 0 ((Z7 x).1.length) ((Z7 x).1.length)) rfl rfl rfl rfl (Zt (vs := #[slv 5 0 ((Z7 x).1.length) ((Z7 x).1.length), Iv ((Z7 x).2)]) (v := Iv ((Z7 x).2)) rfl rfl rfl rfl (Zb rfl rfl (slv 5 0 ((Z7 x).1.length) ((Z7 x).1.length)) rfl (Zb rfl rfl (Iv ((Z7 x).2)) rfl (Za (Zc (Zg (Zi (Zd rfl rfl (Iv ((Zh l).2)) rfl ?_)))))))))
  by_cases h2 : ((Zh l).2) = 0
  refine Zn (vx := Iv ((Zh l).2)) (vy := Iv 0) rfl rfl (.bool true) rfl rfl (Zbs (by omega)) ?_
  refine Zd rfl rfl (.bool true) rfl (Zd rfl rfl (Iv ((Z7 x).2)) rfl ?_)
  by_cases h3 : ((Z7 x).2) = 0
  refine Zn (vx := Iv ((Z7 x).2)) (vy := Iv 0) rfl rfl (.bool true) rfl rfl (Zbs (by omega)) ?_
  refine Zk rfl rfl (.bool true) rfl (Zd rfl rfl (.bool true) rfl (Zd rfl rfl (slv 5 0 ((Z7 x).1.length) ((Z7 x).1.length)) rfl (Zd rfl rfl (slv 0 0 l.length c) rfl ?_)))
  refine Zad (e := [some (5, 0), some (0, 0)]) (nid := 0) (Zlh (G := G) ((Z7 x).1) l ((Z7 x).1.length) ((Z7 x).1.length) l.length c rfl rfl (by omega) (by omega)) (vals := [slv 5 0 ((Z7 x).1.length) ((Z7 x).1.length), slv 0 0 l.length c]) (v := .bool (Zbq (Zl ((Z7 x).1)) (Zl l))) (H' := [rdB l, bxB 110 (Zab (⟨0, (⟨0, 0, 0, ⟨#[]⟩, (⟨(⟨0, 0, 0, dz, 0⟩ : Head), 0, dz⟩ : Signed), (⟨0, 0, 0, 0, dz⟩ : Claim)⟩ : Entry)⟩ : Item)), bxB 110 (Zab x), bxB 110 (Zab (⟨0, (⟨0, 0, 0, ⟨#[]⟩, (⟨(⟨0, 0, 0, dz, 0⟩ : Head), 0, dz⟩ : Signed), (⟨0, 0, 0, 0, dz⟩ : Claim)⟩ : Entry)⟩ : Item)), rwB cFd ((Zh l).1), Zy ((Z7 x).1)]) rfl rfl rfl rfl rfl rfl rfl ⟨⟨⟨rfl, rfl, rfl, by first | omega | exact Nat.le_refl _, by first | omega | exact Nat.le_refl _⟩, ⟨rfl, rfl, rfl, by first | omega | exact Nat.le_refl _, by first | omega | exact Nat.le_refl _⟩, trivial⟩, ⟨(Ze1 rfl), (Zdk rfl), trivial⟩, rfl, rfl, rfl⟩ rfl (by kernel_rfl) ?_
  refine Zk rfl rfl (.bool (Zbq (Zl ((Z7 x).1)) (Zl l))) rfl (Za (Zc ?_))
  rcases Bool.eq_false_or_eq_true (Zbq (Zl ((Z7 x).1)) (Zl l)) with h4 | h4
  refine Z0 (congrArg Value.bool h4) (Zg (Zi ?_))
  refine Zo (p := pt 2 0) (v := Za4 x) rfl rfl rfl (by kernel_rfl) ?_
  refine Zr (p := pt 1 0) (v := Za4 x) (b := 1) (blk := bxB 110 (Zab x)) (H' := [rdB l, bxB 110 (Zab x), bxB 110 (Zab x), bxB 110 (Zab (⟨0, (⟨0, 0, 0, ⟨#[]⟩, (⟨(⟨0, 0, 0, dz, 0⟩ : Head), 0, dz⟩ : Signed), (⟨0, 0, 0, 0, dz⟩ : Claim)⟩ : Entry)⟩ : Item)), rwB cFd ((Zh l).1), Zy ((Z7 x).1)]) rfl rfl rfl (by kernel_rfl) (by kernel_rfl) ?_
  refine Zb rfl rfl (Iv 0) rfl (Za (Zc (Zv (Z5 (Zu ?_)))))
  have hx : x = Zfj (Zh l).1 ⟨0, ⟨0, 0, 0, ⟨#[]⟩, ⟨⟨0, 0, 0, dz, 0⟩, 0, dz⟩, ⟨0, 0, 0, 0, dz⟩⟩⟩ := by rw [← hR, List.drop_of_length_le (by omega)]; rfl
  rw [show Zal l = (x, 0) from by unfold Zal; rw [← hx]; exact if_pos ⟨by omega, by omega, by assumption⟩]
  exact Zm (v := .tuple #[Za4 x, Iv 0]) (by kernel_rfl) rfl rfl (by simp [Zac, rdB]) ⟨(Zbd (by kernel_rfl) rfl), rfl, trivial⟩
  refine Zx (congrArg Value.bool h4) (Zai (Zc (Zg (Zi ?_))))
  refine Zo (p := pt 3 0) (v := Za4 (⟨0, (⟨0, 0, 0, ⟨#[]⟩, (⟨(⟨0, 0, 0, dz, 0⟩ : Head), 0, dz⟩ : Signed), (⟨0, 0, 0, 0, dz⟩ : Claim)⟩ : Entry)⟩ : Item)) rfl rfl rfl (by kernel_rfl) ?_
  refine Zr (p := pt 1 0) (v := Za4 (⟨0, (⟨0, 0, 0, ⟨#[]⟩, (⟨(⟨0, 0, 0, dz, 0⟩ : Head), 0, dz⟩ : Signed), (⟨0, 0, 0, 0, dz⟩ : Claim)⟩ : Entry)⟩ : Item)) (b := 1) (blk := bxB 110 (Zab (⟨0, (⟨0, 0, 0, ⟨#[]⟩, (⟨(⟨0, 0, 0, dz, 0⟩ : Head), 0, dz⟩ : Signed), (⟨0, 0, 0, 0, dz⟩ : Claim)⟩ : Entry)⟩ : Item))) (H' := [rdB l, bxB 110 (Zab (⟨0, (⟨0, 0, 0, ⟨#[]⟩, (⟨(⟨0, 0, 0, dz, 0⟩ : Head), 0, dz⟩ : Signed), (⟨0, 0, 0, 0, dz⟩ : Claim)⟩ : Entry)⟩ : Item)), bxB 110 (Zab x), bxB 110 (Zab (⟨0, (⟨0, 0, 0, ⟨#[]⟩, (⟨(⟨0, 0, 0, dz, 0⟩ : Head), 0, dz⟩ : Signed), (⟨0, 0, 0, 0, dz⟩ : Claim)⟩ : Entry)⟩ : Item)), rwB cFd ((Zh l).1), Zy ((Z7 x).1)]) rfl rfl rfl (by kernel_rfl) (by kernel_rfl) ?_
  refine Zb rfl rfl (Iv 60) rfl (Za (Zc (Zv (Zu ?_))))
  have hx : x = Zfj (Zh l).1 ⟨0, ⟨0, 0, 0, ⟨#[]⟩, ⟨⟨0, 0, 0, dz, 0⟩, 0, dz⟩, ⟨0, 0, 0, 0, dz⟩⟩⟩ := by rw [← hR, List.drop_of_length_le (by omega)]; rfl
  rw [show Zal l = (⟨0, ⟨0, 0, 0, ⟨#[]⟩, ⟨⟨0, 0, 0, dz, 0⟩, 0, dz⟩, ⟨0, 0, 0, 0, dz⟩⟩⟩, 60) from by unfold Zal; rw [← hx]; exact if_neg (fun q => by have q1 := q.1; have q2 := q.2.1; have q3 := q.2.2; first | omega | (simp_all; done))]
  exact Zm (v := .tuple #[Za4 (⟨0, (⟨0, 0, 0, ⟨#[]⟩, (⟨(⟨0, 0, 0, dz, 0⟩ : Head), 0, dz⟩ : Signed), (⟨0, 0, 0, 0, dz⟩ : Claim)⟩ : Entry)⟩ : Item), Iv 60]) (by kernel_rfl) rfl rfl (by simp [Zac, rdB]) ⟨(Zbd (by kernel_rfl) rfl), rfl, trivial⟩
  refine Zn (vx := Iv ((Z7 x).2)) (vy := Iv 0) rfl rfl (.bool false) rfl rfl (Zb6 (by omega)) ?_
  refine Zk rfl rfl (.bool false) rfl (Zd rfl rfl (.bool false) rfl (Zf rfl rfl (Zf rfl rfl (Zf rfl rfl (Zk rfl rfl (.bool false) rfl (Za (Zc (Zx rfl (Zai (Zc (Zg (Zi ?_))))))))))))
  refine Zo (p := pt 3 0) (v := Za4 (⟨0, (⟨0, 0, 0, ⟨#[]⟩, (⟨(⟨0, 0, 0, dz, 0⟩ : Head), 0, dz⟩ : Signed), (⟨0, 0, 0, 0, dz⟩ : Claim)⟩ : Entry)⟩ : Item)) rfl rfl rfl (by kernel_rfl) ?_
  refine Zr (p := pt 1 0) (v := Za4 (⟨0, (⟨0, 0, 0, ⟨#[]⟩, (⟨(⟨0, 0, 0, dz, 0⟩ : Head), 0, dz⟩ : Signed), (⟨0, 0, 0, 0, dz⟩ : Claim)⟩ : Entry)⟩ : Item)) (b := 1) (blk := bxB 110 (Zab (⟨0, (⟨0, 0, 0, ⟨#[]⟩, (⟨(⟨0, 0, 0, dz, 0⟩ : Head), 0, dz⟩ : Signed), (⟨0, 0, 0, 0, dz⟩ : Claim)⟩ : Entry)⟩ : Item))) (H' := [rdB l, bxB 110 (Zab (⟨0, (⟨0, 0, 0, ⟨#[]⟩, (⟨(⟨0, 0, 0, dz, 0⟩ : Head), 0, dz⟩ : Signed), (⟨0, 0, 0, 0, dz⟩ : Claim)⟩ : Entry)⟩ : Item)), bxB 110 (Zab x), bxB 110 (Zab (⟨0, (⟨0, 0, 0, ⟨#[]⟩, (⟨(⟨0, 0, 0, dz, 0⟩ : Head), 0, dz⟩ : Signed), (⟨0, 0, 0, 0, dz⟩ : Claim)⟩ : Entry)⟩ : Item)), rwB cFd ((Zh l).1), Zy ((Z7 x).1)]) rfl rfl rfl (by kernel_rfl) (by kernel_rfl) ?_
  refine Zb rfl rfl (Iv 60) rfl (Za (Zc (Zv (Zu ?_))))
  have hx : x = Zfj (Zh l).1 ⟨0, ⟨0, 0, 0, ⟨#[]⟩, ⟨⟨0, 0, 0, dz, 0⟩, 0, dz⟩, ⟨0, 0, 0, 0, dz⟩⟩⟩ := by rw [← hR, List.drop_of_length_le (by omega)]; rfl
  rw [show Zal l = (⟨0, ⟨0, 0, 0, ⟨#[]⟩, ⟨⟨0, 0, 0, dz, 0⟩, 0, dz⟩, ⟨0, 0, 0, 0, dz⟩⟩⟩, 60) from by unfold Zal; rw [← hx]; exact if_neg (fun q => by have q1 := q.1; have q2 := q.2.1; have q3 := q.2.2; first | omega | (simp_all; done))]
  exact Zm (v := .tuple #[Za4 (⟨0, (⟨0, 0, 0, ⟨#[]⟩, (⟨(⟨0, 0, 0, dz, 0⟩ : Head), 0, dz⟩ : Signed), (⟨0, 0, 0, 0, dz⟩ : Claim)⟩ : Entry)⟩ : Item), Iv 60]) (by kernel_rfl) rfl rfl (by simp [Zac, rdB]) ⟨(Zbd (by kernel_rfl) rfl), rfl, trivial⟩
  refine Zn (vx := Iv ((Zh l).2)) (vy := Iv 0) rfl rfl (.bool false) rfl rfl (Zb6 (by omega)) ?_
  refine Zd rfl rfl (.bool false) rfl (Zf rfl rfl (Zf rfl rfl (Zk rfl rfl (.bool false) rfl (Zd rfl rfl (.bool false) rfl (Zf rfl rfl (Zf rfl rfl (Zf rfl rfl (Zk rfl rfl (.bool false) rfl (Za (Zc (Zx rfl (Zai (Zc (Zg (Zi ?_)))))))))))))))
  refine Zo (p := pt 3 0) (v := Za4 (⟨0, (⟨0, 0, 0, ⟨#[]⟩, (⟨(⟨0, 0, 0, dz, 0⟩ : Head), 0, dz⟩ : Signed), (⟨0, 0, 0, 0, dz⟩ : Claim)⟩ : Entry)⟩ : Item)) rfl rfl rfl (by kernel_rfl) ?_
  refine Zr (p := pt 1 0) (v := Za4 (⟨0, (⟨0, 0, 0, ⟨#[]⟩, (⟨(⟨0, 0, 0, dz, 0⟩ : Head), 0, dz⟩ : Signed), (⟨0, 0, 0, 0, dz⟩ : Claim)⟩ : Entry)⟩ : Item)) (b := 1) (blk := bxB 110 (Zab (⟨0, (⟨0, 0, 0, ⟨#[]⟩, (⟨(⟨0, 0, 0, dz, 0⟩ : Head), 0, dz⟩ : Signed), (⟨0, 0, 0, 0, dz⟩ : Claim)⟩ : Entry)⟩ : Item))) (H' := [rdB l, bxB 110 (Zab (⟨0, (⟨0, 0, 0, ⟨#[]⟩, (⟨(⟨0, 0, 0, dz, 0⟩ : Head), 0, dz⟩ : Signed), (⟨0, 0, 0, 0, dz⟩ : Claim)⟩ : Entry)⟩ : Item)), bxB 110 (Zab x), bxB 110 (Zab (⟨0, (⟨0, 0, 0, ⟨#[]⟩, (⟨(⟨0, 0, 0, dz, 0⟩ : Head), 0, dz⟩ : Signed), (⟨0, 0, 0, 0, dz⟩ : Claim)⟩ : Entry)⟩ : Item)), rwB cFd ((Zh l).1), Zy ((Z7 x).1)]) rfl rfl rfl (by kernel_rfl) (by kernel_rfl) ?_
  refine Zb rfl rfl (Iv 60) rfl (Za (Zc (Zv (Zu ?_))))
  have hx : x = Zfj (Zh l).1 ⟨0, ⟨0, 0, 0, ⟨#[]⟩, ⟨⟨0, 0, 0, dz, 0⟩, 0, dz⟩, ⟨0, 0, 0, 0, dz⟩⟩⟩ := by rw [← hR, List.drop_of_length_le (by omega)]; rfl
  rw [show Zal l = (⟨0, ⟨0, 0, 0, ⟨#[]⟩, ⟨⟨0, 0, 0, dz, 0⟩, 0, dz⟩, ⟨0, 0, 0, 0, dz⟩⟩⟩, 60) from by unfold Zal; rw [← hx]; exact if_neg (fun q => by have q1 := q.1; have q2 := q.2.1; have q3 := q.2.2; first | omega | (simp_all; done))]
  exact Zm (v := .tuple #[Za4 (⟨0, (⟨0, 0, 0, ⟨#[]⟩, (⟨(⟨0, 0, 0, dz, 0⟩ : Head), 0, dz⟩ : Signed), (⟨0, 0, 0, 0, dz⟩ : Claim)⟩ : Entry)⟩ : Item), Iv 60]) (by kernel_rfl) rfl rfl (by simp [Zac, rdB]) ⟨(Zbd (by kernel_rfl) rfl), rfl, trivial⟩
theorem Zpf (l : Bs) (c : Nat) (hc : l.length ≤ c) (hb : l.length ≤ 1048576) : Zao Tryd.prog G 16 [slv 0 0 l.length c] [rdB l] (.tuple #[Za4 (Zal l).1, Iv (Zal l).2]) [rdB l] := by
  refine Zbv (fn := Tryd.f16) (nt := 8) rfl rfl rfl rfl ?_
  refine Zat 1 (H' := [rdB l, hole]) rfl ?_
  refine Zg (Zi ?_)
  refine Zae (b := bxB 110 (Zab (⟨0, (⟨0, 0, 0, ⟨#[]⟩, (⟨(⟨0, 0, 0, dz, 0⟩ : Head), 0, dz⟩ : Signed), (⟨0, 0, 0, 0, dz⟩ : Claim)⟩ : Entry)⟩ : Item))) (nid := 1) (H' := [rdB l, bxB 110 (Zab (⟨0, (⟨0, 0, 0, ⟨#[]⟩, (⟨(⟨0, 0, 0, dz, 0⟩ : Head), 0, dz⟩ : Signed), (⟨0, 0, 0, 0, dz⟩ : Claim)⟩ : Entry)⟩ : Item))]) rfl rfl (by kernel_rfl) (by kernel_rfl) ?_
  refine Zb rfl rfl (Iv 0) rfl (Za (Zc (Zg (Zi (Zd rfl rfl (slv 0 0 l.length c) rfl ?_)))))
  refine Zad (e := [some (0, 0)]) (nid := 0) (Z3f (G := G) l c (by omega) (by omega)) (vals := [slv 0 0 l.length c, .func (.func 45) #[] #[], .func (.func 13) #[] #[]]) (v := .tuple #[Za4 ((Zal l).1), Iv ((Zal l).2)]) (H' := [rdB l, bxB 110 (Zab (⟨0, (⟨0, 0, 0, ⟨#[]⟩, (⟨(⟨0, 0, 0, dz, 0⟩ : Head), 0, dz⟩ : Signed), (⟨0, 0, 0, 0, dz⟩ : Claim)⟩ : Entry)⟩ : Item))]) rfl rfl rfl rfl rfl rfl rfl ⟨⟨⟨rfl, rfl, rfl, by first | omega | exact Nat.le_refl _, by first | omega | exact Nat.le_refl _⟩, ⟨by simp [Zdq, Zct], by kernel_rfl⟩, ⟨by simp [Zdq, Zct], by kernel_rfl⟩, trivial⟩, ⟨(Zdk rfl), trivial⟩, rfl, rfl, rfl⟩ (by kernel_rfl) (by kernel_rfl) ?_
  refine Zt (vs := #[Za4 ((Zal l).1), Iv ((Zal l).2)]) (v := Za4 ((Zal l).1)) rfl rfl rfl rfl (Zt (vs := #[Za4 ((Zal l).1), Iv ((Zal l).2)]) (v := Iv ((Zal l).2)) rfl rfl rfl rfl ?_)
  refine Zr (p := pt 1 0) (v := Za4 ((Zal l).1)) (b := 1) (blk := bxB 110 (Zab ((Zal l).1))) (H' := [rdB l, bxB 110 (Zab ((Zal l).1))]) rfl rfl rfl (by kernel_rfl) (by kernel_rfl) ?_
  refine Zb rfl rfl (Iv ((Zal l).2)) rfl (Za (Zc (Zv (Zu ?_))))
  exact Zm (v := .tuple #[Za4 ((Zal l).1), Iv ((Zal l).2)]) (by kernel_rfl) rfl rfl (by simp [Zac, rdB]) ⟨(Zbd (by kernel_rfl) rfl), rfl, trivial⟩
end Go.Flat
