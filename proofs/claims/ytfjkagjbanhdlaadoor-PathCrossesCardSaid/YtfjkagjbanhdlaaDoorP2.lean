/- Walks. -/
import Derived.Test.YtfjkagjbanhdlaaDoorP1
set_option linter.unusedVariables false
set_option linter.unusedSimpArgs false
set_option maxRecDepth 20000
namespace Go.Flat
open Go.Proofs
variable {G : Glob}
def Zjs : ByteArray := ⟨#[0]⟩
theorem Zrc (s : Signed) : (Zaj s).1.length ≤ 1000 := by
 by_cases hm : Zi8 s
 ·rw [Zqt hm]
  have := Zhy (Zgz 0 (Zl1 s)) 0 []
  have h1 := Zbg s.node
  have h2 := Zwe s.head
  simp only [Zl1, Zgz, Zm7, Za3, Zf3, List.length_nil] at this
  show (Z8 (Zgz 0 (Zl1 s)) 0 []).1.length ≤ 1000
  simp only [Zl1, Zgz]
  omega
 ·rw [Zqw hm]; exact Nat.zero_le _
def Zmy (e : Entry) : List Field := if e.kind = 1 then [⟨1, (Zv e.kind).1⟩, ⟨2, (Zv e.client).1⟩, ⟨3, (Zv e.seq).1⟩, ⟨4, e.text⟩] else if e.kind = 2 then [⟨1, (Zv e.kind).1⟩, ⟨5, Zr (Zaj e.head).1⟩] else [⟨1, (Zv e.kind).1⟩, ⟨6, Zr (Zcf e.claim).1⟩]
theorem Zqa {e : Entry} (h : Zfb e) : 1 ≤ e.kind ∧ e.kind ≤ 3 := by
 rcases h with q | q | q <;> have := q.1 <;> omega
theorem Zln {e : Entry} (h : Zfb e) (hk : e.kind = 1) : (1 ≤ e.client ∧ e.client ≤ 3) ∧ (1 ≤ e.seq ∧ e.seq ≤ 1000000) ∧ e.text.size ≤ 200 := by
 rcases h with q | q | q
 ·exact ⟨⟨q.2.1, q.2.2.1⟩, ⟨q.2.2.2.1, q.2.2.2.2.1⟩, q.2.2.2.2.2.1⟩
 ·have := q.1; omega
 ·have := q.1; omega
theorem Z4v (a b : Field) (ha : 0 < a.tag) (hab : a.tag < b.tag) (hb : b.tag ≤ 255) (h1 : a.data.size ≤ 65536) (h2 : b.data.size ≤ 65536) : (Z8 [a, b] 0 []).2 = 0 := by
 have ea : Zff a 0 = 0 := by unfold Zff; rw [if_neg (by omega), if_neg (by omega), if_neg (by omega)]
 have eb : Zff b a.tag = 0 := by unfold Zff; rw [if_neg (by omega), if_neg (by omega), if_neg (by omega)]
 rw [Z8, if_pos ea, Z8, if_pos eb, Z8]
theorem Zsi {e : Entry} (h : Zfb e) : (Z8 (Zmy e) 0 []).2 = 0 := by
 have hk := Zqa h
 have n1 := Zbg e.kind
 unfold Zmy
 split
 ·rename_i h1
  have hu := Zln h h1
  have n2 := Zbg e.client
  have n3 := Zbg e.seq
  have h := Zm0 [(Zv e.kind).1, (Zv e.client).1, (Zv e.seq).1, e.text] 0 [] (by simp) (by
   intro x hx
   simp only [List.mem_cons, List.not_mem_nil, or_false] at hx
   rcases hx with rfl | rfl | rfl | rfl <;> omega)
  show (Z8 (Zgz 0 [(Zv e.kind).1, (Zv e.client).1, (Zv e.seq).1, e.text]) ((0 : Nat) : Int) []).2 = 0
  rw [h]
 ·split
  ·exact Z4v _ _ (by show (0 : Int) < 1; decide) (by show (1 : Int) < 5; decide) (by show (5 : Int) ≤ 255; decide) (by show (Zv e.kind).1.size ≤ 65536; omega) (by show (Zr (Zaj e.head).1).size ≤ 65536; rw [Za3]; have := Zrc e.head; omega)
  ·exact Z4v _ _ (by show (0 : Int) < 1; decide) (by show (1 : Int) < 6; decide) (by show (6 : Int) ≤ 255; decide) (by show (Zv e.kind).1.size ≤ 65536; omega) (by show (Zr (Zcf e.claim).1).size ≤ 65536; rw [Za3]; have := Zt8 e.claim; omega)
def Zbs (e : Entry) : Bs × Int := if Zfb e then ((Z8 (Zmy e) 0 []).1, 0) else ([], 60)
theorem Zwh {e : Entry} (h : Zfb e) : (Zbs e).2 = 0 := by rw [show Zbs e = _ from if_pos h]
theorem Z4n {e : Entry} (h : (Zbs e).2 = 0) : Zfb e := by
 refine Decidable.byContradiction fun q => ?_
 rw [show Zbs e = ([], 60) from if_neg q] at h; exact absurd h (by decide)
theorem Zuw (e : Entry) : (Zbs e).1.length ≤ 2000 := by
 by_cases h : Zfb e
 ·rw [show Zbs e = _ from if_pos h]
  show (Z8 (Zmy e) 0 []).1.length ≤ 2000
  have h1 := Zhy (Zmy e) 0 []
  have n1 := Zbg e.kind
  have n2 := Zbg e.client
  have n3 := Zbg e.seq
  have n4 := Zrc e.head
  have n5 := Zt8 e.claim
  have h2 : Zm7 (Zmy e) ≤ 2000 := by
   unfold Zmy
   split
   ·have := (Zln h (by assumption)).2.2
    simp only [Zm7]; omega
   ·split
    ·simp only [Zm7, Za3]; omega
    ·simp only [Zm7, Za3]; omega
  simp only [List.length_nil] at h1
  omega
 ·rw [show Zbs e = ([], 60) from if_neg h]; exact Nat.zero_le _
def Zqd (x : Item) : List Field := [⟨1, (Zv x.epoch).1⟩, ⟨2, Zr (Zbs x.entry).1⟩]
theorem Z1e (x : Item) : (Z8 (Zqd x) 0 []).2 = 0 := by
 have n1 := Zbg x.epoch
 have n2 := Zuw x.entry
 exact Z4v _ _ (by show (0 : Int) < 1; decide) (by show (1 : Int) < 2; decide) (by show (2 : Int) ≤ 255; decide) (by show (Zv x.epoch).1.size ≤ 65536; omega) (by show (Zr (Zbs x.entry).1).size ≤ 65536; rw [Za3]; omega)
def Zci (x : Item) : Bs × Int := if Zc9 x then ((Z8 (Zqd x) 0 []).1, 0) else ([], 60)
theorem Z1m {x : Item} (h : Zc9 x) : (Zci x).2 = 0 := by rw [show Zci x = _ from if_pos h]
theorem Z4y {x : Item} (h : (Zci x).2 = 0) : Zc9 x := by
 refine Decidable.byContradiction fun q => ?_
 rw [show Zci x = ([], 60) from if_neg q] at h; exact absurd h (by decide)
theorem Z4l {x : Item} (h : (Zci x).2 ≠ 0) : (Zci x).2 = 60 := by
 by_cases q : Zc9 x
 ·exact absurd (Z1m q) h
 ·rw [show Zci x = ([], 60) from if_neg q]
theorem Z0k (x : Item) : (Zci x).1.length ≤ 2100 := by
 unfold Zci
 split
 ·have h1 := Zhy (Zqd x) 0 []
  have n1 := Zbg x.epoch
  have n2 := Zuw x.entry
  simp only [Zqd, Zm7, Za3, List.length_nil] at h1
  show (Z8 (Zqd x) 0 []).1.length ≤ 2100
  simp only [Zqd]; omega
 ·exact Nat.zero_le _
def lfT (kk : Nat → BitVec 32) (s : ByteArray) : D := Zck kk (Zbq [Zjs, s])
def Zao (kk : Nat → BitVec 32) (x : Item) : D × Int := if Zc9 x then (lfT kk (Zr (Zci x).1), 0) else (dz, 60)
theorem Z2o (e : Entry) : Zaf Tryd.prog G 50 [Zb0 e] [] (.tuple #[slv 0 0 (Zbs e).1.length (Zbs e).1.length, Iv (Zbs e).2]) [Zaq (Zbs e).1] := by
  refine Zbj (fn := Tryd.f50) (nt := 57) rfl rfl rfl rfl ?_
  refine Zai 5 (H' := [hole, hole, hole, hole, hole]) rfl ?_
  refine Zg (Zj ?_)
  refine Zcj (v := Zb0 e) (b := bxB 109 (Zb2 e)) (nid := 0) (H' := [bxB 109 (Zb2 e), hole, hole, hole, hole]) rfl rfl rfl (by kernel_rfl) (by kernel_rfl) ?_
  refine Zd rfl rfl (.slice none 0 0) rfl (Zd rfl rfl (Iv 0) rfl (Zb (Zc (Zg (Zg (Zj ?_))))))
  refine Zp (p := pt 0 0) (v := Zb0 e) rfl rfl rfl (by kernel_rfl) ?_
  refine Zt (Znu (G := G) e) (vals := [Zb0 e]) (res' := Iv (Ze3 e)) rfl rfl rfl rfl rfl rfl ?_
  refine Zd rfl rfl (Iv (Ze3 e)) rfl (Zb (Zc (Zg (Zj (Zf rfl rfl (Iv (Ze3 e)) rfl ?_)))))
  by_cases h1 : (Ze3 e) ≠ 0
  refine Zo (vx := Iv (Ze3 e)) (vy := Iv 0) rfl rfl (.bool true) rfl rfl (Zdr (by omega)) ?_
  refine Zb (Zc (Z0 rfl (Zg (Zj (Zf rfl rfl (Iv (Ze3 e)) rfl (Zd rfl rfl (.slice none 0 0) rfl (Zd rfl rfl (Iv (Ze3 e)) rfl (Zb (Zc ?_)))))))))
  refine Zby (Zbt.nilTmp (i := 2) (b := 1) true 1 rfl (by decide) rfl) ?_
  refine Zx (Zaa (Zy ?_))
  rw [show Zbs e = ([], Ze3 e) from by rw [show Ze3 e = 60 from if_neg (Zke (by omega))]; exact if_neg (Zke (by omega))]
  exact Za2 [1] (v := .tuple #[slv 1 0 0 0, Iv (Ze3 e)]) rfl (by kernel_rfl) rfl rfl (by decide) (by simp [Za8, Zaq]) ⟨⟨rfl, rfl, rfl, by first | omega | exact Nat.le_refl _ | exact Nat.zero_le _ | (dsimp only; omega), by first | omega | exact Nat.le_refl _ | exact Nat.zero_le _ | (dsimp only; omega)⟩, rfl, trivial⟩
  refine Zo (vx := Iv (Ze3 e)) (vy := Iv 0) rfl rfl (.bool false) rfl rfl (Zdb (by omega)) ?_
  refine Zb (Zc (Zz rfl (Z5 (Zc (Zg (Zj ?_))))))
  refine Z2 (b := rfB (.slice none 0 0)) (nid := 1) (H' := [bxB 109 (Zb2 e), rfB (.slice none 0 0), hole, hole, hole]) rfl rfl (by kernel_rfl) (by kernel_rfl) ?_
  refine Zb (Zc (Zg ?_))
  have hr := Ztm (e := e) (by omega)
  have hk := Zqa hr
  refine Zby (Zbt.nilCell (k := 1) (j := 0) (b := 2) true 2 rfl (by decide) rfl (by show 0 < 1; decide) rfl rfl) ?_
  refine Zj ?_
  refine Zn (b := 0) (o := 0) (n := 0) (o' := 0) rfl rfl rfl rfl rfl ?_
  refine Zp (p := pt 0 0) (v := Iv e.kind) rfl rfl rfl (by kernel_rfl) ?_
  refine Zcy (e := [some (1, 0), some (2, 0)]) (nid := 0) (Zmf (G := G) [] 0 1 e.kind rfl (by omega) (by omega) (by omega)) (vals := [pt 1 0, Iv 1, Iv e.kind]) (v := .tuple #[]) (H' := [bxB 109 (Zb2 e), rfB (slv 2 0 1 1), rwB cFd ([] ++ [(⟨1, (Zv e.kind).1⟩ : Field)]), hole, hole]) rfl rfl rfl rfl rfl rfl ⟨⟨⟨rfl, rfl⟩, rfl, rfl, trivial⟩, ⟨(Zax rfl rfl rfl rfl), (Zax rfl rfl rfl rfl), trivial⟩, rfl, rfl, rfl, Nat.le_refl _⟩ (by kernel_rfl) rfl (by kernel_rfl) ?_
  refine Zb (Zc (Zg (Zg (Zj ?_))))
  refine Zn (b := 0) (o := 0) (n := 0) (o' := 0) rfl rfl rfl rfl rfl ?_
  refine Zp (p := pt 0 0) (v := Iv e.kind) rfl rfl rfl (by kernel_rfl) ?_
  refine Zb (Zc (Z7 (Zg (Zj ?_))))
  by_cases h2 : e.kind = 1
  refine Zo (vx := Iv e.kind) (vy := Iv 1) rfl rfl (.bool true) rfl rfl (Zdd (by omega)) ?_
  refine Zd rfl rfl (.bool true) rfl (Zb (Zc (Z0 rfl (Zg ?_))))
  have hu := Zln hr (by omega)
  refine Zj ?_
  refine Zn (b := 0) (o := 0) (n := 1) (o' := 1) rfl rfl rfl rfl rfl ?_
  refine Zp (p := pt 0 1) (v := Iv e.client) rfl rfl rfl (by kernel_rfl) ?_
  refine Zcy (e := [some (1, 0), some (2, 0)]) (nid := 0) (Zmf (G := G) ([] ++ [(⟨1, (Zv e.kind).1⟩ : Field)]) 1 2 e.client rfl (by omega) (by omega) (by omega)) (vals := [pt 1 0, Iv 2, Iv e.client]) (v := .tuple #[]) (H' := [bxB 109 (Zb2 e), rfB (slv 2 0 2 2), rwB cFd (([] ++ [(⟨1, (Zv e.kind).1⟩ : Field)]) ++ [(⟨2, (Zv e.client).1⟩ : Field)]), hole, hole]) rfl rfl rfl rfl rfl rfl ⟨⟨⟨rfl, rfl⟩, rfl, rfl, trivial⟩, ⟨(Zax rfl rfl rfl rfl), (Zax rfl rfl rfl rfl), trivial⟩, rfl, rfl, rfl, Nat.le_refl _⟩ (by kernel_rfl) rfl (by kernel_rfl) ?_
  refine Zb (Zc (Zg (Zj ?_)))
  refine Zn (b := 0) (o := 0) (n := 2) (o' := 2) rfl rfl rfl rfl rfl ?_
  refine Zp (p := pt 0 2) (v := Iv e.seq) rfl rfl rfl (by kernel_rfl) ?_
  refine Zcy (e := [some (1, 0), some (2, 0)]) (nid := 0) (Zmf (G := G) (([] ++ [(⟨1, (Zv e.kind).1⟩ : Field)]) ++ [(⟨2, (Zv e.client).1⟩ : Field)]) 2 3 e.seq rfl (by omega) (by omega) (by omega)) (vals := [pt 1 0, Iv 3, Iv e.seq]) (v := .tuple #[]) (H' := [bxB 109 (Zb2 e), rfB (slv 2 0 3 3), rwB cFd ((([] ++ [(⟨1, (Zv e.kind).1⟩ : Field)]) ++ [(⟨2, (Zv e.client).1⟩ : Field)]) ++ [(⟨3, (Zv e.seq).1⟩ : Field)]), hole, hole]) rfl rfl rfl rfl rfl rfl ⟨⟨⟨rfl, rfl⟩, rfl, rfl, trivial⟩, ⟨(Zax rfl rfl rfl rfl), (Zax rfl rfl rfl rfl), trivial⟩, rfl, rfl, rfl, Nat.le_refl _⟩ (by kernel_rfl) rfl (by kernel_rfl) ?_
  refine Zb (Zc (Zj ?_))
  refine Zn (b := 0) (o := 0) (n := 3) (o' := 3) rfl rfl rfl rfl rfl ?_
  refine Zp (p := pt 0 3) (v := .string e.text) rfl rfl rfl (by kernel_rfl) ?_
  refine Zcy (e := [some (1, 0), some (2, 0)]) (nid := 0) (Zky (G := G) ((([] ++ [(⟨1, (Zv e.kind).1⟩ : Field)]) ++ [(⟨2, (Zv e.client).1⟩ : Field)]) ++ [(⟨3, (Zv e.seq).1⟩ : Field)]) 3 4 e.text rfl (by omega)) (vals := [pt 1 0, Iv 4, .string e.text]) (v := .tuple #[]) (H' := [bxB 109 (Zb2 e), rfB (slv 2 0 4 4), rwB cFd (((([] ++ [(⟨1, (Zv e.kind).1⟩ : Field)]) ++ [(⟨2, (Zv e.client).1⟩ : Field)]) ++ [(⟨3, (Zv e.seq).1⟩ : Field)]) ++ [(⟨4, e.text⟩ : Field)]), hole, hole]) rfl rfl rfl rfl rfl rfl ⟨⟨⟨rfl, rfl⟩, rfl, rfl, trivial⟩, ⟨(Zax rfl rfl rfl rfl), (Zax rfl rfl rfl rfl), trivial⟩, rfl, rfl, rfl, Nat.le_refl _⟩ (by kernel_rfl) rfl (by kernel_rfl) ?_
  refine Zb (Z3 (Zc (Zg (Zj ?_))))
  refine Zp (p := pt 1 0) (v := slv 2 0 4 4) rfl rfl rfl rfl ?_
  refine Z4 (e := [some (2, 0)]) (nid := 3) (Zgu (G := G) (((([] ++ [(⟨1, (Zv e.kind).1⟩ : Field)]) ++ [(⟨2, (Zv e.client).1⟩ : Field)]) ++ [(⟨3, (Zv e.seq).1⟩ : Field)]) ++ [(⟨4, e.text⟩ : Field)]) 4 4 rfl (by omega) (by omega)) (vals := [slv 2 0 4 4]) (v := .tuple #[slv 3 0 ((Z8 (((([] ++ [(⟨1, (Zv e.kind).1⟩ : Field)]) ++ [(⟨2, (Zv e.client).1⟩ : Field)]) ++ [(⟨3, (Zv e.seq).1⟩ : Field)]) ++ [(⟨4, e.text⟩ : Field)]) 0 []).1.length) ((Z8 (((([] ++ [(⟨1, (Zv e.kind).1⟩ : Field)]) ++ [(⟨2, (Zv e.client).1⟩ : Field)]) ++ [(⟨3, (Zv e.seq).1⟩ : Field)]) ++ [(⟨4, e.text⟩ : Field)]) 0 []).1.length), Iv ((Z8 (((([] ++ [(⟨1, (Zv e.kind).1⟩ : Field)]) ++ [(⟨2, (Zv e.client).1⟩ : Field)]) ++ [(⟨3, (Zv e.seq).1⟩ : Field)]) ++ [(⟨4, e.text⟩ : Field)]) 0 []).2)]) (H' := [bxB 109 (Zb2 e), rfB (slv 2 0 4 4), rwB cFd (((([] ++ [(⟨1, (Zv e.kind).1⟩ : Field)]) ++ [(⟨2, (Zv e.client).1⟩ : Field)]) ++ [(⟨3, (Zv e.seq).1⟩ : Field)]) ++ [(⟨4, e.text⟩ : Field)]), Zaq ((Z8 (((([] ++ [(⟨1, (Zv e.kind).1⟩ : Field)]) ++ [(⟨2, (Zv e.client).1⟩ : Field)]) ++ [(⟨3, (Zv e.seq).1⟩ : Field)]) ++ [(⟨4, e.text⟩ : Field)]) 0 []).1), hole]) rfl rfl rfl rfl rfl rfl rfl ⟨⟨⟨rfl, rfl, rfl, by first | omega | exact Nat.le_refl _, by first | omega | exact Nat.le_refl _⟩, trivial⟩, ⟨(Ze9 rfl), trivial⟩, rfl, rfl, rfl⟩ (by kernel_rfl) (by kernel_rfl) ?_
  refine Zu (vs := #[slv 3 0 ((Z8 (((([] ++ [(⟨1, (Zv e.kind).1⟩ : Field)]) ++ [(⟨2, (Zv e.client).1⟩ : Field)]) ++ [(⟨3, (Zv e.seq).1⟩ : Field)]) ++ [(⟨4, e.text⟩ : Field)]) 0 []).1.length) ((Z8 (((([] ++ [(⟨1, (Zv e.kind).1⟩ : Field)]) ++ [(⟨2, (Zv e.client).1⟩ : Field)]) ++ [(⟨3, (Zv e.seq).1⟩ : Field)]) ++ [(⟨4, e.text⟩ : Field)]) 0 []).1.length), Iv ((Z8 (((([] ++ [(⟨1, (Zv e.kind).1⟩ : Field)]) ++ [(⟨2, (Zv e.client).1⟩ : Field)]) ++ [(⟨3, (Zv e.seq).1⟩ : Field)]) ++ [(⟨4, e.text⟩ : Field)]) 0 []).2)]) (v := slv 3 0 ((Z8 (((([] ++ [(⟨1, (Zv e.kind).1⟩ : Field)]) ++ [(⟨2, (Zv e.client).1⟩ : Field)]) ++ [(⟨3, (Zv e.seq).1⟩ : Field)]) ++ [(⟨4, e.text⟩ : Field)]) 0 []).1.length) ((Z8 (((([] ++ [(⟨1, (Zv e.kind).1⟩ : Field)]) ++ [(⟨2, (Zv e.client).1⟩ : Field)]) ++ [(⟨3, (Zv e.seq).1⟩ : Field)]) ++ [(⟨4, e.text⟩ : Field)]) 0 []).1.length)) rfl rfl rfl rfl (Zu (vs := #[slv 3 0 ((Z8 (((([] ++ [(⟨1, (Zv e.kind).1⟩ : Field)]) ++ [(⟨2, (Zv e.client).1⟩ : Field)]) ++ [(⟨3, (Zv e.seq).1⟩ : Field)]) ++ [(⟨4, e.text⟩ : Field)]) 0 []).1.length) ((Z8 (((([] ++ [(⟨1, (Zv e.kind).1⟩ : Field)]) ++ [(⟨2, (Zv e.client).1⟩ : Field)]) ++ [(⟨3, (Zv e.seq).1⟩ : Field)]) ++ [(⟨4, e.text⟩ : Field)]) 0 []).1.length), Iv ((Z8 (((([] ++ [(⟨1, (Zv e.kind).1⟩ : Field)]) ++ [(⟨2, (Zv e.client).1⟩ : Field)]) ++ [(⟨3, (Zv e.seq).1⟩ : Field)]) ++ [(⟨4, e.text⟩ : Field)]) 0 []).2)]) (v := Iv ((Z8 (((([] ++ [(⟨1, (Zv e.kind).1⟩ : Field)]) ++ [(⟨2, (Zv e.client).1⟩ : Field)]) ++ [(⟨3, (Zv e.seq).1⟩ : Field)]) ++ [(⟨4, e.text⟩ : Field)]) 0 []).2)) rfl rfl rfl rfl (Zd rfl rfl (slv 3 0 ((Z8 (((([] ++ [(⟨1, (Zv e.kind).1⟩ : Field)]) ++ [(⟨2, (Zv e.client).1⟩ : Field)]) ++ [(⟨3, (Zv e.seq).1⟩ : Field)]) ++ [(⟨4, e.text⟩ : Field)]) 0 []).1.length) ((Z8 (((([] ++ [(⟨1, (Zv e.kind).1⟩ : Field)]) ++ [(⟨2, (Zv e.client).1⟩ : Field)]) ++ [(⟨3, (Zv e.seq).1⟩ : Field)]) ++ [(⟨4, e.text⟩ : Field)]) 0 []).1.length)) rfl (Zd rfl rfl (Iv ((Z8 (((([] ++ [(⟨1, (Zv e.kind).1⟩ : Field)]) ++ [(⟨2, (Zv e.client).1⟩ : Field)]) ++ [(⟨3, (Zv e.seq).1⟩ : Field)]) ++ [(⟨4, e.text⟩ : Field)]) 0 []).2)) rfl (Zb (Zc (Zx (Zy ?_)))))))
  have ee : (((([] ++ [(⟨1, (Zv e.kind).1⟩ : Field)]) ++ [(⟨2, (Zv e.client).1⟩ : Field)]) ++ [(⟨3, (Zv e.seq).1⟩ : Field)]) ++ [(⟨4, e.text⟩ : Field)]) = Zmy e := by unfold Zmy; first | (rw [if_pos (by omega)]; done) | (rw [if_pos (by omega)]; rfl) | (rw [if_neg (by omega), if_pos (by omega)]; rfl) | (rw [if_neg (by omega), if_neg (by omega)]; rfl)
  have ez := Zsi hr
  rw [← ee] at ez
  rw [show Zbs e = ((Z8 (((([] ++ [(⟨1, (Zv e.kind).1⟩ : Field)]) ++ [(⟨2, (Zv e.client).1⟩ : Field)]) ++ [(⟨3, (Zv e.seq).1⟩ : Field)]) ++ [(⟨4, e.text⟩ : Field)]) 0 []).1, (Z8 (((([] ++ [(⟨1, (Zv e.kind).1⟩ : Field)]) ++ [(⟨2, (Zv e.client).1⟩ : Field)]) ++ [(⟨3, (Zv e.seq).1⟩ : Field)]) ++ [(⟨4, e.text⟩ : Field)]) 0 []).2) from by rw [ez, ee]; exact if_pos hr]
  exact Za2 [3] (v := .tuple #[slv 3 0 ((Z8 (((([] ++ [(⟨1, (Zv e.kind).1⟩ : Field)]) ++ [(⟨2, (Zv e.client).1⟩ : Field)]) ++ [(⟨3, (Zv e.seq).1⟩ : Field)]) ++ [(⟨4, e.text⟩ : Field)]) 0 []).1.length) ((Z8 (((([] ++ [(⟨1, (Zv e.kind).1⟩ : Field)]) ++ [(⟨2, (Zv e.client).1⟩ : Field)]) ++ [(⟨3, (Zv e.seq).1⟩ : Field)]) ++ [(⟨4, e.text⟩ : Field)]) 0 []).1.length), Iv ((Z8 (((([] ++ [(⟨1, (Zv e.kind).1⟩ : Field)]) ++ [(⟨2, (Zv e.client).1⟩ : Field)]) ++ [(⟨3, (Zv e.seq).1⟩ : Field)]) ++ [(⟨4, e.text⟩ : Field)]) 0 []).2)]) rfl (by kernel_rfl) rfl rfl (by decide) (by simp [Za8, Zaq]) ⟨⟨rfl, rfl, rfl, by first | omega | exact Nat.le_refl _ | exact Nat.zero_le _ | (dsimp only; omega), by first | omega | exact Nat.le_refl _ | exact Nat.zero_le _ | (dsimp only; omega)⟩, rfl, trivial⟩
  refine Zo (vx := Iv e.kind) (vy := Iv 1) rfl rfl (.bool false) rfl rfl (Zf5 (by omega)) ?_
  refine Zd rfl rfl (.bool false) rfl (Zb (Zc (Zz rfl (Zg (Zj ?_)))))
  by_cases h3 : e.kind = 2
  refine Zo (vx := Iv e.kind) (vy := Iv 2) rfl rfl (.bool true) rfl rfl (Zdd (by omega)) ?_
  refine Zd rfl rfl (.bool true) rfl (Zb (Zc (Z0 rfl (Zg (Zj ?_)))))
  refine Zn (b := 0) (o := 0) (n := 4) (o' := 4) rfl rfl rfl rfl rfl ?_
  refine Zp (p := pt 0 4) (v := Zs e.head) rfl rfl rfl (by kernel_rfl) ?_
  refine Z4 (e := []) (nid := 3) (Zmb (G := G) e.head) (vals := [Zs e.head]) (v := .tuple #[slv 3 0 ((Zaj e.head).1.length) ((Zaj e.head).1.length), Iv ((Zaj e.head).2)]) (H' := [bxB 109 (Zb2 e), rfB (slv 2 0 1 1), rwB cFd ([] ++ [(⟨1, (Zv e.kind).1⟩ : Field)]), Zaq ((Zaj e.head).1), hole]) rfl rfl rfl rfl rfl rfl rfl ⟨⟨rfl, trivial⟩, trivial, rfl, rfl, rfl⟩ (by kernel_rfl) (by kernel_rfl) ?_
  refine Zf rfl rfl (.tuple #[slv 3 0 ((Zaj e.head).1.length) ((Zaj e.head).1.length), Iv ((Zaj e.head).2)]) rfl (Zu (vs := #[slv 3 0 ((Zaj e.head).1.length) ((Zaj e.head).1.length), Iv ((Zaj e.head).2)]) (v := slv 3 0 ((Zaj e.head).1.length) ((Zaj e.head).1.length)) rfl rfl rfl rfl (Zu (vs := #[slv 3 0 ((Zaj e.head).1.length) ((Zaj e.head).1.length), Iv ((Zaj e.head).2)]) (v := Iv ((Zaj e.head).2)) rfl rfl rfl rfl (Zd rfl rfl (slv 3 0 ((Zaj e.head).1.length) ((Zaj e.head).1.length)) rfl (Zd rfl rfl (Iv ((Zaj e.head).2)) rfl (Zb (Zc (Zj (Zf rfl rfl (slv 3 0 ((Zaj e.head).1.length) ((Zaj e.head).1.length)) rfl ?_))))))))
  refine Zfr (p := slv 3 0 ((Zaj e.head).1.length) ((Zaj e.head).1.length)) (v := .string (Zr ((Zaj e.head).1))) rfl rfl rfl (Zfu rfl rfl rfl rfl rfl (by omega)) ?_
  refine Zcy (e := [some (1, 0), some (2, 0)]) (nid := 0) (Zky (G := G) ([] ++ [(⟨1, (Zv e.kind).1⟩ : Field)]) 1 5 (Zr ((Zaj e.head).1)) rfl (by omega)) (vals := [pt 1 0, Iv 5, .string (Zr ((Zaj e.head).1))]) (v := .tuple #[]) (H' := [bxB 109 (Zb2 e), rfB (slv 2 0 2 2), rwB cFd (([] ++ [(⟨1, (Zv e.kind).1⟩ : Field)]) ++ [(⟨5, (Zr ((Zaj e.head).1))⟩ : Field)]), Zaq ((Zaj e.head).1), hole]) rfl rfl rfl rfl rfl rfl ⟨⟨⟨rfl, rfl⟩, rfl, rfl, trivial⟩, ⟨(Zax rfl rfl rfl rfl), (Zax rfl rfl rfl rfl), trivial⟩, rfl, rfl, rfl, Nat.le_refl _⟩ (by kernel_rfl) rfl (by kernel_rfl) ?_
  refine Zb (Z3 (Zc (Zg (Zj ?_))))
  refine Zp (p := pt 1 0) (v := slv 2 0 2 2) rfl rfl rfl rfl ?_
  refine Z4 (e := [some (2, 0)]) (nid := 4) (Zgu (G := G) (([] ++ [(⟨1, (Zv e.kind).1⟩ : Field)]) ++ [(⟨5, (Zr ((Zaj e.head).1))⟩ : Field)]) 2 2 rfl (by omega) (by omega)) (vals := [slv 2 0 2 2]) (v := .tuple #[slv 4 0 ((Z8 (([] ++ [(⟨1, (Zv e.kind).1⟩ : Field)]) ++ [(⟨5, (Zr ((Zaj e.head).1))⟩ : Field)]) 0 []).1.length) ((Z8 (([] ++ [(⟨1, (Zv e.kind).1⟩ : Field)]) ++ [(⟨5, (Zr ((Zaj e.head).1))⟩ : Field)]) 0 []).1.length), Iv ((Z8 (([] ++ [(⟨1, (Zv e.kind).1⟩ : Field)]) ++ [(⟨5, (Zr ((Zaj e.head).1))⟩ : Field)]) 0 []).2)]) (H' := [bxB 109 (Zb2 e), rfB (slv 2 0 2 2), rwB cFd (([] ++ [(⟨1, (Zv e.kind).1⟩ : Field)]) ++ [(⟨5, (Zr ((Zaj e.head).1))⟩ : Field)]), Zaq ((Zaj e.head).1), Zaq ((Z8 (([] ++ [(⟨1, (Zv e.kind).1⟩ : Field)]) ++ [(⟨5, (Zr ((Zaj e.head).1))⟩ : Field)]) 0 []).1)]) rfl rfl rfl rfl rfl rfl rfl ⟨⟨⟨rfl, rfl, rfl, by first | omega | exact Nat.le_refl _, by first | omega | exact Nat.le_refl _⟩, trivial⟩, ⟨(Ze9 rfl), trivial⟩, rfl, rfl, rfl⟩ (by kernel_rfl) (by kernel_rfl) ?_
  refine Zu (vs := #[slv 4 0 ((Z8 (([] ++ [(⟨1, (Zv e.kind).1⟩ : Field)]) ++ [(⟨5, (Zr ((Zaj e.head).1))⟩ : Field)]) 0 []).1.length) ((Z8 (([] ++ [(⟨1, (Zv e.kind).1⟩ : Field)]) ++ [(⟨5, (Zr ((Zaj e.head).1))⟩ : Field)]) 0 []).1.length), Iv ((Z8 (([] ++ [(⟨1, (Zv e.kind).1⟩ : Field)]) ++ [(⟨5, (Zr ((Zaj e.head).1))⟩ : Field)]) 0 []).2)]) (v := slv 4 0 ((Z8 (([] ++ [(⟨1, (Zv e.kind).1⟩ : Field)]) ++ [(⟨5, (Zr ((Zaj e.head).1))⟩ : Field)]) 0 []).1.length) ((Z8 (([] ++ [(⟨1, (Zv e.kind).1⟩ : Field)]) ++ [(⟨5, (Zr ((Zaj e.head).1))⟩ : Field)]) 0 []).1.length)) rfl rfl rfl rfl (Zu (vs := #[slv 4 0 ((Z8 (([] ++ [(⟨1, (Zv e.kind).1⟩ : Field)]) ++ [(⟨5, (Zr ((Zaj e.head).1))⟩ : Field)]) 0 []).1.length) ((Z8 (([] ++ [(⟨1, (Zv e.kind).1⟩ : Field)]) ++ [(⟨5, (Zr ((Zaj e.head).1))⟩ : Field)]) 0 []).1.length), Iv ((Z8 (([] ++ [(⟨1, (Zv e.kind).1⟩ : Field)]) ++ [(⟨5, (Zr ((Zaj e.head).1))⟩ : Field)]) 0 []).2)]) (v := Iv ((Z8 (([] ++ [(⟨1, (Zv e.kind).1⟩ : Field)]) ++ [(⟨5, (Zr ((Zaj e.head).1))⟩ : Field)]) 0 []).2)) rfl rfl rfl rfl (Zd rfl rfl (slv 4 0 ((Z8 (([] ++ [(⟨1, (Zv e.kind).1⟩ : Field)]) ++ [(⟨5, (Zr ((Zaj e.head).1))⟩ : Field)]) 0 []).1.length) ((Z8 (([] ++ [(⟨1, (Zv e.kind).1⟩ : Field)]) ++ [(⟨5, (Zr ((Zaj e.head).1))⟩ : Field)]) 0 []).1.length)) rfl (Zd rfl rfl (Iv ((Z8 (([] ++ [(⟨1, (Zv e.kind).1⟩ : Field)]) ++ [(⟨5, (Zr ((Zaj e.head).1))⟩ : Field)]) 0 []).2)) rfl (Zb (Zc (Zx (Zy ?_)))))))
  have ee : (([] ++ [(⟨1, (Zv e.kind).1⟩ : Field)]) ++ [(⟨5, (Zr ((Zaj e.head).1))⟩ : Field)]) = Zmy e := by unfold Zmy; first | (rw [if_pos (by omega)]; done) | (rw [if_pos (by omega)]; rfl) | (rw [if_neg (by omega), if_pos (by omega)]; rfl) | (rw [if_neg (by omega), if_neg (by omega)]; rfl)
  have ez := Zsi hr
  rw [← ee] at ez
  rw [show Zbs e = ((Z8 (([] ++ [(⟨1, (Zv e.kind).1⟩ : Field)]) ++ [(⟨5, (Zr ((Zaj e.head).1))⟩ : Field)]) 0 []).1, (Z8 (([] ++ [(⟨1, (Zv e.kind).1⟩ : Field)]) ++ [(⟨5, (Zr ((Zaj e.head).1))⟩ : Field)]) 0 []).2) from by rw [ez, ee]; exact if_pos hr]
  exact Za2 [4] (v := .tuple #[slv 4 0 ((Z8 (([] ++ [(⟨1, (Zv e.kind).1⟩ : Field)]) ++ [(⟨5, (Zr ((Zaj e.head).1))⟩ : Field)]) 0 []).1.length) ((Z8 (([] ++ [(⟨1, (Zv e.kind).1⟩ : Field)]) ++ [(⟨5, (Zr ((Zaj e.head).1))⟩ : Field)]) 0 []).1.length), Iv ((Z8 (([] ++ [(⟨1, (Zv e.kind).1⟩ : Field)]) ++ [(⟨5, (Zr ((Zaj e.head).1))⟩ : Field)]) 0 []).2)]) rfl (by kernel_rfl) rfl rfl (by decide) (by simp [Za8, Zaq]) ⟨⟨rfl, rfl, rfl, by first | omega | exact Nat.le_refl _ | exact Nat.zero_le _ | (dsimp only; omega), by first | omega | exact Nat.le_refl _ | exact Nat.zero_le _ | (dsimp only; omega)⟩, rfl, trivial⟩
  refine Zo (vx := Iv e.kind) (vy := Iv 2) rfl rfl (.bool false) rfl rfl (Zf5 (by omega)) ?_
  refine Zd rfl rfl (.bool false) rfl (Zb (Zc (Zz rfl (Zg (Zj ?_)))))
  refine Zo (vx := Iv e.kind) (vy := Iv 3) rfl rfl (.bool true) rfl rfl (Zdd (by omega)) ?_
  refine Zd rfl rfl (.bool true) rfl (Zb (Zc (Z0 rfl (Zg (Zj ?_)))))
  refine Zn (b := 0) (o := 0) (n := 73) (o' := 73) rfl rfl rfl rfl rfl ?_
  refine Zp (p := pt 0 73) (v := Zet e.claim) rfl rfl rfl (by kernel_rfl) ?_
  refine Z4 (e := []) (nid := 3) (Ztd (G := G) e.claim) (vals := [Zet e.claim]) (v := .tuple #[slv 3 0 ((Zcf e.claim).1.length) ((Zcf e.claim).1.length), Iv ((Zcf e.claim).2)]) (H' := [bxB 109 (Zb2 e), rfB (slv 2 0 1 1), rwB cFd ([] ++ [(⟨1, (Zv e.kind).1⟩ : Field)]), Zaq ((Zcf e.claim).1), hole]) rfl rfl rfl rfl rfl rfl rfl ⟨⟨rfl, trivial⟩, trivial, rfl, rfl, rfl⟩ (by kernel_rfl) (by kernel_rfl) ?_
  refine Zf rfl rfl (.tuple #[slv 3 0 ((Zcf e.claim).1.length) ((Zcf e.claim).1.length), Iv ((Zcf e.claim).2)]) rfl (Zu (vs := #[slv 3 0 ((Zcf e.claim).1.length) ((Zcf e.claim).1.length), Iv ((Zcf e.claim).2)]) (v := slv 3 0 ((Zcf e.claim).1.length) ((Zcf e.claim).1.length)) rfl rfl rfl rfl (Zu (vs := #[slv 3 0 ((Zcf e.claim).1.length) ((Zcf e.claim).1.length), Iv ((Zcf e.claim).2)]) (v := Iv ((Zcf e.claim).2)) rfl rfl rfl rfl (Zd rfl rfl (slv 3 0 ((Zcf e.claim).1.length) ((Zcf e.claim).1.length)) rfl (Zd rfl rfl (Iv ((Zcf e.claim).2)) rfl (Zb (Zc (Zj (Zf rfl rfl (slv 3 0 ((Zcf e.claim).1.length) ((Zcf e.claim).1.length)) rfl ?_))))))))
  refine Zfr (p := slv 3 0 ((Zcf e.claim).1.length) ((Zcf e.claim).1.length)) (v := .string (Zr ((Zcf e.claim).1))) rfl rfl rfl (Zfu rfl rfl rfl rfl rfl (by omega)) ?_
  refine Zcy (e := [some (1, 0), some (2, 0)]) (nid := 0) (Zky (G := G) ([] ++ [(⟨1, (Zv e.kind).1⟩ : Field)]) 1 6 (Zr ((Zcf e.claim).1)) rfl (by omega)) (vals := [pt 1 0, Iv 6, .string (Zr ((Zcf e.claim).1))]) (v := .tuple #[]) (H' := [bxB 109 (Zb2 e), rfB (slv 2 0 2 2), rwB cFd (([] ++ [(⟨1, (Zv e.kind).1⟩ : Field)]) ++ [(⟨6, (Zr ((Zcf e.claim).1))⟩ : Field)]), Zaq ((Zcf e.claim).1), hole]) rfl rfl rfl rfl rfl rfl ⟨⟨⟨rfl, rfl⟩, rfl, rfl, trivial⟩, ⟨(Zax rfl rfl rfl rfl), (Zax rfl rfl rfl rfl), trivial⟩, rfl, rfl, rfl, Nat.le_refl _⟩ (by kernel_rfl) rfl (by kernel_rfl) ?_
  refine Zb (Z3 (Zc (Zg (Zj ?_))))
  refine Zp (p := pt 1 0) (v := slv 2 0 2 2) rfl rfl rfl rfl ?_
  refine Z4 (e := [some (2, 0)]) (nid := 4) (Zgu (G := G) (([] ++ [(⟨1, (Zv e.kind).1⟩ : Field)]) ++ [(⟨6, (Zr ((Zcf e.claim).1))⟩ : Field)]) 2 2 rfl (by omega) (by omega)) (vals := [slv 2 0 2 2]) (v := .tuple #[slv 4 0 ((Z8 (([] ++ [(⟨1, (Zv e.kind).1⟩ : Field)]) ++ [(⟨6, (Zr ((Zcf e.claim).1))⟩ : Field)]) 0 []).1.length) ((Z8 (([] ++ [(⟨1, (Zv e.kind).1⟩ : Field)]) ++ [(⟨6, (Zr ((Zcf e.claim).1))⟩ : Field)]) 0 []).1.length), Iv ((Z8 (([] ++ [(⟨1, (Zv e.kind).1⟩ : Field)]) ++ [(⟨6, (Zr ((Zcf e.claim).1))⟩ : Field)]) 0 []).2)]) (H' := [bxB 109 (Zb2 e), rfB (slv 2 0 2 2), rwB cFd (([] ++ [(⟨1, (Zv e.kind).1⟩ : Field)]) ++ [(⟨6, (Zr ((Zcf e.claim).1))⟩ : Field)]), Zaq ((Zcf e.claim).1), Zaq ((Z8 (([] ++ [(⟨1, (Zv e.kind).1⟩ : Field)]) ++ [(⟨6, (Zr ((Zcf e.claim).1))⟩ : Field)]) 0 []).1)]) rfl rfl rfl rfl rfl rfl rfl ⟨⟨⟨rfl, rfl, rfl, by first | omega | exact Nat.le_refl _, by first | omega | exact Nat.le_refl _⟩, trivial⟩, ⟨(Ze9 rfl), trivial⟩, rfl, rfl, rfl⟩ (by kernel_rfl) (by kernel_rfl) ?_
  refine Zu (vs := #[slv 4 0 ((Z8 (([] ++ [(⟨1, (Zv e.kind).1⟩ : Field)]) ++ [(⟨6, (Zr ((Zcf e.claim).1))⟩ : Field)]) 0 []).1.length) ((Z8 (([] ++ [(⟨1, (Zv e.kind).1⟩ : Field)]) ++ [(⟨6, (Zr ((Zcf e.claim).1))⟩ : Field)]) 0 []).1.length), Iv ((Z8 (([] ++ [(⟨1, (Zv e.kind).1⟩ : Field)]) ++ [(⟨6, (Zr ((Zcf e.claim).1))⟩ : Field)]) 0 []).2)]) (v := slv 4 0 ((Z8 (([] ++ [(⟨1, (Zv e.kind).1⟩ : Field)]) ++ [(⟨6, (Zr ((Zcf e.claim).1))⟩ : Field)]) 0 []).1.length) ((Z8 (([] ++ [(⟨1, (Zv e.kind).1⟩ : Field)]) ++ [(⟨6, (Zr ((Zcf e.claim).1))⟩ : Field)]) 0 []).1.length)) rfl rfl rfl rfl (Zu (vs := #[slv 4 0 ((Z8 (([] ++ [(⟨1, (Zv e.kind).1⟩ : Field)]) ++ [(⟨6, (Zr ((Zcf e.claim).1))⟩ : Field)]) 0 []).1.length) ((Z8 (([] ++ [(⟨1, (Zv e.kind).1⟩ : Field)]) ++ [(⟨6, (Zr ((Zcf e.claim).1))⟩ : Field)]) 0 []).1.length), Iv ((Z8 (([] ++ [(⟨1, (Zv e.kind).1⟩ : Field)]) ++ [(⟨6, (Zr ((Zcf e.claim).1))⟩ : Field)]) 0 []).2)]) (v := Iv ((Z8 (([] ++ [(⟨1, (Zv e.kind).1⟩ : Field)]) ++ [(⟨6, (Zr ((Zcf e.claim).1))⟩ : Field)]) 0 []).2)) rfl rfl rfl rfl (Zd rfl rfl (slv 4 0 ((Z8 (([] ++ [(⟨1, (Zv e.kind).1⟩ : Field)]) ++ [(⟨6, (Zr ((Zcf e.claim).1))⟩ : Field)]) 0 []).1.length) ((Z8 (([] ++ [(⟨1, (Zv e.kind).1⟩ : Field)]) ++ [(⟨6, (Zr ((Zcf e.claim).1))⟩ : Field)]) 0 []).1.length)) rfl (Zd rfl rfl (Iv ((Z8 (([] ++ [(⟨1, (Zv e.kind).1⟩ : Field)]) ++ [(⟨6, (Zr ((Zcf e.claim).1))⟩ : Field)]) 0 []).2)) rfl (Zb (Zc (Zx (Zy ?_)))))))
  have ee : (([] ++ [(⟨1, (Zv e.kind).1⟩ : Field)]) ++ [(⟨6, (Zr ((Zcf e.claim).1))⟩ : Field)]) = Zmy e := by unfold Zmy; first | (rw [if_pos (by omega)]; done) | (rw [if_pos (by omega)]; rfl) | (rw [if_neg (by omega), if_pos (by omega)]; rfl) | (rw [if_neg (by omega), if_neg (by omega)]; rfl)
  have ez := Zsi hr
  rw [← ee] at ez
  rw [show Zbs e = ((Z8 (([] ++ [(⟨1, (Zv e.kind).1⟩ : Field)]) ++ [(⟨6, (Zr ((Zcf e.claim).1))⟩ : Field)]) 0 []).1, (Z8 (([] ++ [(⟨1, (Zv e.kind).1⟩ : Field)]) ++ [(⟨6, (Zr ((Zcf e.claim).1))⟩ : Field)]) 0 []).2) from by rw [ez, ee]; exact if_pos hr]
  exact Za2 [4] (v := .tuple #[slv 4 0 ((Z8 (([] ++ [(⟨1, (Zv e.kind).1⟩ : Field)]) ++ [(⟨6, (Zr ((Zcf e.claim).1))⟩ : Field)]) 0 []).1.length) ((Z8 (([] ++ [(⟨1, (Zv e.kind).1⟩ : Field)]) ++ [(⟨6, (Zr ((Zcf e.claim).1))⟩ : Field)]) 0 []).1.length), Iv ((Z8 (([] ++ [(⟨1, (Zv e.kind).1⟩ : Field)]) ++ [(⟨6, (Zr ((Zcf e.claim).1))⟩ : Field)]) 0 []).2)]) rfl (by kernel_rfl) rfl rfl (by decide) (by simp [Za8, Zaq]) ⟨⟨rfl, rfl, rfl, by first | omega | exact Nat.le_refl _ | exact Nat.zero_le _ | (dsimp only; omega), by first | omega | exact Nat.le_refl _ | exact Nat.zero_le _ | (dsimp only; omega)⟩, rfl, trivial⟩
theorem Zwo (x : Item) : Zaf Tryd.prog G 32 [Zay x] [] (.tuple #[slv 0 0 (Zci x).1.length (Zci x).1.length, Iv (Zci x).2]) [Zaq (Zci x).1] := by
  refine Zbj (fn := Tryd.f32) (nt := 31) rfl rfl rfl rfl ?_
  refine Zai 5 (H' := [hole, hole, hole, hole, hole]) rfl ?_
  refine Zg (Zj ?_)
  refine Zcj (v := Zay x) (b := bxB 110 (Zh x)) (nid := 0) (H' := [bxB 110 (Zh x), hole, hole, hole, hole]) rfl rfl rfl (by kernel_rfl) (by kernel_rfl) ?_
  refine Zd rfl rfl (.slice none 0 0) rfl (Zd rfl rfl (Iv 0) rfl (Zb (Zc (Zg (Zj ?_)))))
  refine Zn (b := 0) (o := 0) (n := 1) (o' := 1) rfl rfl rfl rfl rfl ?_
  refine Zp (p := pt 0 1) (v := Zb0 x.entry) rfl rfl rfl (by kernel_rfl) ?_
  refine Z4 (e := []) (nid := 1) (Z2o (G := G) x.entry) (vals := [Zb0 x.entry]) (v := .tuple #[slv 1 0 ((Zbs x.entry).1.length) ((Zbs x.entry).1.length), Iv ((Zbs x.entry).2)]) (H' := [bxB 110 (Zh x), Zaq ((Zbs x.entry).1), hole, hole, hole]) rfl rfl rfl rfl rfl rfl rfl ⟨⟨rfl, trivial⟩, trivial, rfl, rfl, rfl⟩ (by kernel_rfl) (by kernel_rfl) ?_
  refine Zf rfl rfl (.tuple #[slv 1 0 ((Zbs x.entry).1.length) ((Zbs x.entry).1.length), Iv ((Zbs x.entry).2)]) rfl (Zu (vs := #[slv 1 0 ((Zbs x.entry).1.length) ((Zbs x.entry).1.length), Iv ((Zbs x.entry).2)]) (v := slv 1 0 ((Zbs x.entry).1.length) ((Zbs x.entry).1.length)) rfl rfl rfl rfl (Zu (vs := #[slv 1 0 ((Zbs x.entry).1.length) ((Zbs x.entry).1.length), Iv ((Zbs x.entry).2)]) (v := Iv ((Zbs x.entry).2)) rfl rfl rfl rfl (Zd rfl rfl (slv 1 0 ((Zbs x.entry).1.length) ((Zbs x.entry).1.length)) rfl (Zd rfl rfl (Iv ((Zbs x.entry).2)) rfl (Zb (Zc (Zg (Zg (Zj (Zf rfl rfl (Iv ((Zbs x.entry).2)) rfl ?_))))))))))
  by_cases h1 : ((Zbs x.entry).2) ≠ 0
  refine Zo (vx := Iv ((Zbs x.entry).2)) (vy := Iv 0) rfl rfl (.bool true) rfl rfl (Zdr (by omega)) ?_
  refine Zf rfl rfl (.bool true) rfl (Zi rfl rfl (Zi rfl rfl (Zi rfl rfl (Zi rfl rfl (Zm rfl rfl (.bool true) rfl (Zb (Zc (Z0 rfl (Zg (Zj (Zd rfl rfl (.slice none 0 0) rfl (Zd rfl rfl (Iv 60) rfl (Zb (Zc ?_))))))))))))))
  refine Zby (Zbt.nilTmp (i := 2) (b := 2) true 1 rfl (by decide) rfl) ?_
  refine Zx (Zaa (Zy ?_))
  rw [show Zci x = ([], 60) from if_neg (fun q => by have q1 := q.1; have q2 := q.2.1; first | omega | (have := Zwh q.2.2; omega))]
  exact Za2 [2] (v := .tuple #[slv 2 0 0 0, Iv 60]) rfl (by kernel_rfl) rfl rfl (by decide) (by simp [Za8, Zaq]) ⟨⟨rfl, rfl, rfl, by first | omega | exact Nat.le_refl _ | exact Nat.zero_le _ | (dsimp only; omega), by first | omega | exact Nat.le_refl _ | exact Nat.zero_le _ | (dsimp only; omega)⟩, rfl, trivial⟩
  refine Zo (vx := Iv ((Zbs x.entry).2)) (vy := Iv 0) rfl rfl (.bool false) rfl rfl (Zdb (by omega)) ?_
  refine Zf rfl rfl (.bool false) rfl ?_
  refine Zn (b := 0) (o := 0) (n := 0) (o' := 0) rfl rfl rfl rfl rfl ?_
  refine Zp (p := pt 0 0) (v := Iv x.epoch) rfl rfl rfl (by kernel_rfl) ?_
  by_cases h2 : 1 ≤ x.epoch
  by_cases h3 : x.epoch ≤ 900000000
  refine Zt ((Za5 (G := G) x.epoch 1 900000000).res (congrArg Value.bool (Zb7 (by omega) (by omega)))) (vals := [Iv x.epoch, Iv 1, Iv 900000000]) (res' := .bool true) rfl rfl rfl rfl rfl rfl ?_
  refine Ziy (vx := .bool true) rfl rfl (.bool false) rfl Zer ?_
  refine Zm rfl rfl (.bool false) rfl (Zb (Zc (Zz rfl (Z5 (Zc (Zg (Zj ?_)))))))
  refine Z2 (b := rfB (.slice none 0 0)) (nid := 2) (H' := [bxB 110 (Zh x), Zaq ((Zbs x.entry).1), rfB (.slice none 0 0), hole, hole]) rfl rfl (by kernel_rfl) (by kernel_rfl) ?_
  refine Zb (Zc (Zg ?_))
  refine Zby (Zbt.nilCell (k := 2) (j := 0) (b := 3) true 2 rfl (by decide) rfl (by show 0 < 1; decide) rfl rfl) ?_
  refine Zj ?_
  refine Zn (b := 0) (o := 0) (n := 0) (o' := 0) rfl rfl rfl rfl rfl ?_
  refine Zp (p := pt 0 0) (v := Iv x.epoch) rfl rfl rfl (by kernel_rfl) ?_
  refine Zcy (e := [some (2, 0), some (3, 0)]) (nid := 0) (Zmf (G := G) [] 0 1 x.epoch rfl (by omega) (by omega) (by omega)) (vals := [pt 2 0, Iv 1, Iv x.epoch]) (v := .tuple #[]) (H' := [bxB 110 (Zh x), Zaq ((Zbs x.entry).1), rfB (slv 3 0 1 1), rwB cFd ([] ++ [(⟨1, (Zv x.epoch).1⟩ : Field)]), hole]) rfl rfl rfl rfl rfl rfl ⟨⟨⟨rfl, rfl⟩, rfl, rfl, trivial⟩, ⟨(Zax rfl rfl rfl rfl), (Zax rfl rfl rfl rfl), trivial⟩, rfl, rfl, rfl, Nat.le_refl _⟩ (by kernel_rfl) rfl (by kernel_rfl) ?_
  refine Zb (Zc (Zg (Zj (Zf rfl rfl (slv 1 0 ((Zbs x.entry).1.length) ((Zbs x.entry).1.length)) rfl ?_))))
  refine Zfr (p := slv 1 0 ((Zbs x.entry).1.length) ((Zbs x.entry).1.length)) (v := .string (Zr ((Zbs x.entry).1))) rfl rfl rfl (Zfu rfl rfl rfl rfl rfl (by omega)) ?_
  refine Zcy (e := [some (2, 0), some (3, 0)]) (nid := 0) (Zky (G := G) ([] ++ [(⟨1, (Zv x.epoch).1⟩ : Field)]) 1 2 (Zr ((Zbs x.entry).1)) rfl (by omega)) (vals := [pt 2 0, Iv 2, .string (Zr ((Zbs x.entry).1))]) (v := .tuple #[]) (H' := [bxB 110 (Zh x), Zaq ((Zbs x.entry).1), rfB (slv 3 0 2 2), rwB cFd (([] ++ [(⟨1, (Zv x.epoch).1⟩ : Field)]) ++ [(⟨2, (Zr ((Zbs x.entry).1))⟩ : Field)]), hole]) rfl rfl rfl rfl rfl rfl ⟨⟨⟨rfl, rfl⟩, rfl, rfl, trivial⟩, ⟨(Zax rfl rfl rfl rfl), (Zax rfl rfl rfl rfl), trivial⟩, rfl, rfl, rfl, Nat.le_refl _⟩ (by kernel_rfl) rfl (by kernel_rfl) ?_
  refine Zb (Zc (Zg (Zj ?_)))
  refine Zp (p := pt 2 0) (v := slv 3 0 2 2) rfl rfl rfl rfl ?_
  refine Z4 (e := [some (3, 0)]) (nid := 4) (Zgu (G := G) (([] ++ [(⟨1, (Zv x.epoch).1⟩ : Field)]) ++ [(⟨2, (Zr ((Zbs x.entry).1))⟩ : Field)]) 2 2 rfl (by omega) (by omega)) (vals := [slv 3 0 2 2]) (v := .tuple #[slv 4 0 ((Z8 (([] ++ [(⟨1, (Zv x.epoch).1⟩ : Field)]) ++ [(⟨2, (Zr ((Zbs x.entry).1))⟩ : Field)]) 0 []).1.length) ((Z8 (([] ++ [(⟨1, (Zv x.epoch).1⟩ : Field)]) ++ [(⟨2, (Zr ((Zbs x.entry).1))⟩ : Field)]) 0 []).1.length), Iv ((Z8 (([] ++ [(⟨1, (Zv x.epoch).1⟩ : Field)]) ++ [(⟨2, (Zr ((Zbs x.entry).1))⟩ : Field)]) 0 []).2)]) (H' := [bxB 110 (Zh x), Zaq ((Zbs x.entry).1), rfB (slv 3 0 2 2), rwB cFd (([] ++ [(⟨1, (Zv x.epoch).1⟩ : Field)]) ++ [(⟨2, (Zr ((Zbs x.entry).1))⟩ : Field)]), Zaq ((Z8 (([] ++ [(⟨1, (Zv x.epoch).1⟩ : Field)]) ++ [(⟨2, (Zr ((Zbs x.entry).1))⟩ : Field)]) 0 []).1)]) rfl rfl rfl rfl rfl rfl rfl ⟨⟨⟨rfl, rfl, rfl, by first | omega | exact Nat.le_refl _, by first | omega | exact Nat.le_refl _⟩, trivial⟩, ⟨(Ze9 rfl), trivial⟩, rfl, rfl, rfl⟩ (by kernel_rfl) (by kernel_rfl) ?_
  refine Zu (vs := #[slv 4 0 ((Z8 (([] ++ [(⟨1, (Zv x.epoch).1⟩ : Field)]) ++ [(⟨2, (Zr ((Zbs x.entry).1))⟩ : Field)]) 0 []).1.length) ((Z8 (([] ++ [(⟨1, (Zv x.epoch).1⟩ : Field)]) ++ [(⟨2, (Zr ((Zbs x.entry).1))⟩ : Field)]) 0 []).1.length), Iv ((Z8 (([] ++ [(⟨1, (Zv x.epoch).1⟩ : Field)]) ++ [(⟨2, (Zr ((Zbs x.entry).1))⟩ : Field)]) 0 []).2)]) (v := slv 4 0 ((Z8 (([] ++ [(⟨1, (Zv x.epoch).1⟩ : Field)]) ++ [(⟨2, (Zr ((Zbs x.entry).1))⟩ : Field)]) 0 []).1.length) ((Z8 (([] ++ [(⟨1, (Zv x.epoch).1⟩ : Field)]) ++ [(⟨2, (Zr ((Zbs x.entry).1))⟩ : Field)]) 0 []).1.length)) rfl rfl rfl rfl (Zu (vs := #[slv 4 0 ((Z8 (([] ++ [(⟨1, (Zv x.epoch).1⟩ : Field)]) ++ [(⟨2, (Zr ((Zbs x.entry).1))⟩ : Field)]) 0 []).1.length) ((Z8 (([] ++ [(⟨1, (Zv x.epoch).1⟩ : Field)]) ++ [(⟨2, (Zr ((Zbs x.entry).1))⟩ : Field)]) 0 []).1.length), Iv ((Z8 (([] ++ [(⟨1, (Zv x.epoch).1⟩ : Field)]) ++ [(⟨2, (Zr ((Zbs x.entry).1))⟩ : Field)]) 0 []).2)]) (v := Iv ((Z8 (([] ++ [(⟨1, (Zv x.epoch).1⟩ : Field)]) ++ [(⟨2, (Zr ((Zbs x.entry).1))⟩ : Field)]) 0 []).2)) rfl rfl rfl rfl (Zd rfl rfl (slv 4 0 ((Z8 (([] ++ [(⟨1, (Zv x.epoch).1⟩ : Field)]) ++ [(⟨2, (Zr ((Zbs x.entry).1))⟩ : Field)]) 0 []).1.length) ((Z8 (([] ++ [(⟨1, (Zv x.epoch).1⟩ : Field)]) ++ [(⟨2, (Zr ((Zbs x.entry).1))⟩ : Field)]) 0 []).1.length)) rfl (Zd rfl rfl (Iv ((Z8 (([] ++ [(⟨1, (Zv x.epoch).1⟩ : Field)]) ++ [(⟨2, (Zr ((Zbs x.entry).1))⟩ : Field)]) 0 []).2)) rfl (Zb (Zc (Zx (Zy ?_)))))))
  have ee : (([] ++ [(⟨1, (Zv x.epoch).1⟩ : Field)]) ++ [(⟨2, (Zr ((Zbs x.entry).1))⟩ : Field)]) = Zqd x := rfl
  have ez := Z1e x
  rw [← ee] at ez
  rw [show Zci x = ((Z8 (([] ++ [(⟨1, (Zv x.epoch).1⟩ : Field)]) ++ [(⟨2, (Zr ((Zbs x.entry).1))⟩ : Field)]) 0 []).1, (Z8 (([] ++ [(⟨1, (Zv x.epoch).1⟩ : Field)]) ++ [(⟨2, (Zr ((Zbs x.entry).1))⟩ : Field)]) 0 []).2) from by rw [ez, ee]; exact if_pos ⟨by omega, by omega, Z4n (by omega)⟩]
  exact Za2 [4] (v := .tuple #[slv 4 0 ((Z8 (([] ++ [(⟨1, (Zv x.epoch).1⟩ : Field)]) ++ [(⟨2, (Zr ((Zbs x.entry).1))⟩ : Field)]) 0 []).1.length) ((Z8 (([] ++ [(⟨1, (Zv x.epoch).1⟩ : Field)]) ++ [(⟨2, (Zr ((Zbs x.entry).1))⟩ : Field)]) 0 []).1.length), Iv ((Z8 (([] ++ [(⟨1, (Zv x.epoch).1⟩ : Field)]) ++ [(⟨2, (Zr ((Zbs x.entry).1))⟩ : Field)]) 0 []).2)]) rfl (by kernel_rfl) rfl rfl (by decide) (by simp [Za8, Zaq]) ⟨⟨rfl, rfl, rfl, by first | omega | exact Nat.le_refl _ | exact Nat.zero_le _ | (dsimp only; omega), by first | omega | exact Nat.le_refl _ | exact Nat.zero_le _ | (dsimp only; omega)⟩, rfl, trivial⟩
  refine Zt ((Za5 (G := G) x.epoch 1 900000000).res (congrArg Value.bool (Zan (by omega)))) (vals := [Iv x.epoch, Iv 1, Iv 900000000]) (res' := .bool false) rfl rfl rfl rfl rfl rfl ?_
  refine Ziy (vx := .bool false) rfl rfl (.bool true) rfl Zer ?_
  refine Zm rfl rfl (.bool true) rfl (Zb (Zc (Z0 rfl (Zg (Zj (Zd rfl rfl (.slice none 0 0) rfl (Zd rfl rfl (Iv 60) rfl (Zb (Zc ?_)))))))))
  refine Zby (Zbt.nilTmp (i := 2) (b := 2) true 1 rfl (by decide) rfl) ?_
  refine Zx (Zaa (Zy ?_))
  rw [show Zci x = ([], 60) from if_neg (fun q => by have q1 := q.1; have q2 := q.2.1; first | omega | (have := Zwh q.2.2; omega))]
  exact Za2 [2] (v := .tuple #[slv 2 0 0 0, Iv 60]) rfl (by kernel_rfl) rfl rfl (by decide) (by simp [Za8, Zaq]) ⟨⟨rfl, rfl, rfl, by first | omega | exact Nat.le_refl _ | exact Nat.zero_le _ | (dsimp only; omega), by first | omega | exact Nat.le_refl _ | exact Nat.zero_le _ | (dsimp only; omega)⟩, rfl, trivial⟩
  refine Zt ((Za5 (G := G) x.epoch 1 900000000).res (congrArg Value.bool (Zan (by omega)))) (vals := [Iv x.epoch, Iv 1, Iv 900000000]) (res' := .bool false) rfl rfl rfl rfl rfl rfl ?_
  refine Ziy (vx := .bool false) rfl rfl (.bool true) rfl Zer ?_
  refine Zm rfl rfl (.bool true) rfl (Zb (Zc (Z0 rfl (Zg (Zj (Zd rfl rfl (.slice none 0 0) rfl (Zd rfl rfl (Iv 60) rfl (Zb (Zc ?_)))))))))
  refine Zby (Zbt.nilTmp (i := 2) (b := 2) true 1 rfl (by decide) rfl) ?_
  refine Zx (Zaa (Zy ?_))
  rw [show Zci x = ([], 60) from if_neg (fun q => by have q1 := q.1; have q2 := q.2.1; first | omega | (have := Zwh q.2.2; omega))]
  exact Za2 [2] (v := .tuple #[slv 2 0 0 0, Iv 60]) rfl (by kernel_rfl) rfl rfl (by decide) (by simp [Za8, Zaq]) ⟨⟨rfl, rfl, rfl, by first | omega | exact Nat.le_refl _ | exact Nat.zero_le _ | (dsimp only; omega), by first | omega | exact Nat.le_refl _ | exact Nat.zero_le _ | (dsimp only; omega)⟩, rfl, trivial⟩
theorem Zvt (kk : Nat → BitVec 32) (hG : G 0 = some (Zad w32 64 kk)) (s : ByteArray) (hs : s.size ≤ 1000000) : Zaf Tryd.prog G 33 [.string s] [] (dgV (lfT kk s)) [] := by
  refine Zbj (fn := Tryd.f33) (nt := 6) rfl rfl rfl rfl ?_
  refine Zai 2 (H' := [hole, hole]) rfl ?_
  refine Zg (Zj ?_)
  refine Z2 (b := dgB dz) (nid := 0) (H' := [dgB dz, hole]) rfl rfl (by kernel_rfl) (by kernel_rfl) ?_
  refine Zb (Zc (Zg (Zj (Zf rfl rfl (.string s) rfl ?_))))
  refine Zdh (vs := [(0, .string Zjs), (1, .string s)]) (v := slv 1 0 2 2) (blk := txB [Zjs, s]) (nid := 1) (H' := [dgB dz, txB [Zjs, s]]) rfl rfl rfl (by kernel_rfl) (by kernel_rfl) ?_
  refine Z4 (e := [some (1, 0)]) (nid := 0) (Zto (G := G) kk hG [Zjs, s] 2 (by simp) (by intro x hx; simp at hx; rcases hx with rfl | rfl <;> first | omega | (show 1 ≤ _; omega))) (vals := [slv 1 0 2 2]) (v := dgV (Zck kk (Zbq [Zjs, s]))) (H' := [dgB dz, txB [Zjs, s]]) rfl rfl rfl rfl rfl rfl rfl ⟨⟨⟨rfl, rfl, rfl, by first | omega | exact Nat.le_refl _, by first | omega | exact Nat.le_refl _⟩, trivial⟩, ⟨(Zve rfl), trivial⟩, rfl, rfl, rfl⟩ (by kernel_rfl) (by kernel_rfl) ?_
  refine Zw (p := pt 0 0) (v := dgV (Zck kk (Zbq [Zjs, s]))) (b := 0) (blk := dgB (Zck kk (Zbq [Zjs, s]))) (H' := [dgB (Zck kk (Zbq [Zjs, s])), txB [Zjs, s]]) rfl rfl rfl (by kernel_rfl) (by kernel_rfl) ?_
  refine Zb (Zc (Zx (Zy ?_)))
  exact Zq (v := dgV (Zck kk (Zbq [Zjs, s]))) (by kernel_rfl) rfl rfl (by kernel_rfl) (Zcs (Zcg fun _ => rfl) rfl)
theorem Zxr (kk : Nat → BitVec 32) (hG : G 0 = some (Zad w32 64 kk)) (x : Item) : Zaf Tryd.prog G 18 [Zay x] [] (.tuple #[dgV (Zao kk x).1, Iv (Zao kk x).2]) [] := by
 refine Zbj (fn := Tryd.f18) (nt := 18) rfl rfl rfl rfl ?_
 refine Zai 3 (H' := [hole, hole, hole]) rfl ?_
 refine Zg (Zj ?_)
 refine Zcj (v := Zay x) (b := bxB 110 (Zh x)) (nid := 0) (H' := [bxB 110 (Zh x), hole, hole]) rfl rfl rfl (by kernel_rfl) (by kernel_rfl) ?_
 refine Z2 (b := dgB dz) (nid := 1) (H' := [bxB 110 (Zh x), dgB dz, hole]) rfl rfl (by kernel_rfl) (by kernel_rfl) ?_
 refine Zd rfl rfl (Iv 0) rfl (Zb (Zc (Zg (Zj ?_))))
 refine Zp (p := pt 0 0) (v := Zay x) rfl rfl rfl (by kernel_rfl) ?_
 refine Z4 (e := []) (nid := 2) (Zwo (G := G) x) (vals := [Zay x]) (v := .tuple #[slv 2 0 ((Zci x).1.length) ((Zci x).1.length), Iv ((Zci x).2)]) (H' := [bxB 110 (Zh x), dgB dz, Zaq ((Zci x).1)]) rfl rfl rfl rfl rfl rfl rfl ⟨⟨rfl, trivial⟩, trivial, rfl, rfl, rfl⟩ (by kernel_rfl) (by kernel_rfl) ?_
 refine Zf rfl rfl (.tuple #[slv 2 0 ((Zci x).1.length) ((Zci x).1.length), Iv ((Zci x).2)]) rfl (Zu (vs := #[slv 2 0 ((Zci x).1.length) ((Zci x).1.length), Iv ((Zci x).2)]) (v := slv 2 0 ((Zci x).1.length) ((Zci x).1.length)) rfl rfl rfl rfl (Zu (vs := #[slv 2 0 ((Zci x).1.length) ((Zci x).1.length), Iv ((Zci x).2)]) (v := Iv ((Zci x).2)) rfl rfl rfl rfl (Zd rfl rfl (slv 2 0 ((Zci x).1.length) ((Zci x).1.length)) rfl (Zd rfl rfl (Iv ((Zci x).2)) rfl (Zb (Zc (Zg (Zg (Zj (Zf rfl rfl (Iv ((Zci x).2)) rfl ?_))))))))))
 by_cases h1 : ((Zci x).2) ≠ 0
 refine Zo (vx := Iv ((Zci x).2)) (vy := Iv 0) rfl rfl (.bool true) rfl rfl (Zdr (by omega)) ?_
 refine Zb (Zc (Z0 rfl (Zg (Zj ?_))))
 refine Za1 (vs := []) (v := dgV dz) rfl rfl rfl (by kernel_rfl) ?_
 refine Zf rfl rfl (Iv ((Zci x).2)) rfl ?_
 refine Zw (p := pt 1 0) (v := dgV dz) (b := 1) (blk := dgB dz) (H' := [bxB 110 (Zh x), dgB dz, Zaq ((Zci x).1)]) rfl rfl rfl (by kernel_rfl) (by kernel_rfl) ?_
 refine Zd rfl rfl (Iv ((Zci x).2)) rfl (Zb (Zc (Zx (Zaa (Zy ?_)))))
 rw [show Zao kk x = (dz, (Zci x).2) from by rw [Z4l (by omega)]; exact if_neg (fun q => by have := Z1m q; omega)]
 exact Zq (v := .tuple #[dgV dz, Iv ((Zci x).2)]) (by kernel_rfl) rfl rfl (by kernel_rfl) ⟨(Zcs (Zcg fun _ => rfl) rfl), rfl, trivial⟩
 refine Zo (vx := Iv ((Zci x).2)) (vy := Iv 0) rfl rfl (.bool false) rfl rfl (Zdb (by omega)) ?_
 refine Zb (Zc (Zz rfl (Z5 (Zc (Zg (Zj (Zf rfl rfl (slv 2 0 ((Zci x).1.length) ((Zci x).1.length)) rfl ?_)))))))
 refine Zfr (p := slv 2 0 ((Zci x).1.length) ((Zci x).1.length)) (v := .string (Zr ((Zci x).1))) rfl rfl rfl (Zfu rfl rfl rfl rfl rfl (by omega)) ?_
 refine Zt (Zvt (G := G) kk hG (Zr ((Zci x).1)) (by rw [Za3]; have := Z0k x; omega)) (vals := [.string (Zr ((Zci x).1))]) (res' := dgV (lfT kk (Zr ((Zci x).1)))) rfl rfl rfl rfl rfl (by kernel_rfl) ?_
 refine Zw (p := pt 1 0) (v := dgV (lfT kk (Zr ((Zci x).1)))) (b := 1) (blk := dgB (lfT kk (Zr ((Zci x).1)))) (H' := [bxB 110 (Zh x), dgB (lfT kk (Zr ((Zci x).1))), Zaq ((Zci x).1)]) rfl rfl rfl (by kernel_rfl) (by kernel_rfl) ?_
 refine Zd rfl rfl (Iv 0) rfl (Zb (Zc (Zx (Zy ?_))))
 rw [show Zao kk x = (lfT kk (Zr (Zci x).1), 0) from if_pos (Z4y (by omega))]
 exact Zq (v := .tuple #[dgV (lfT kk (Zr ((Zci x).1))), Iv 0]) (by kernel_rfl) rfl rfl (by kernel_rfl) ⟨(Zcs (Zcg fun _ => rfl) rfl), rfl, trivial⟩
end Go.Flat
