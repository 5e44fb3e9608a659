/- Walks. -/
import Derived.Test.YtoheeojjdpdljaaDoorH12
set_option linter.unusedVariables false
set_option linter.unusedSimpArgs false
set_option maxRecDepth 20000
namespace Go.Flat
open Go.Proofs
variable {G : Glob}
def Zjm : ByteArray := ⟨#[0]⟩
theorem Zqv (s : Signed) : (Za1 s).1.length ≤ 1000 := by
 by_cases hm : Zfy s
 ·rw [Ziu hm]
  have := Zh2 (Zd0 0 (Zdn s)) 0 []
  have h1 := Za6 s.node
  have h2 := Zlm s.head
  simp only [Zdn, Zd0, Znm, Zbc, Ze2, List.length_nil] at this
  show (Z6 (Zd0 0 (Zdn s)) 0 []).1.length ≤ 1000
  simp only [Zdn, Zd0]
  omega
 ·rw [Zyz hm]; exact Nat.zero_le _
def Zci (e : Entry) : List Field := if e.kind = 1 then [⟨1, (Zp e.kind).1⟩, ⟨2, (Zp e.client).1⟩, ⟨3, (Zp e.seq).1⟩, ⟨4, e.text⟩] else if e.kind = 2 then [⟨1, (Zp e.kind).1⟩, ⟨5, Zl (Za1 e.head).1⟩] else [⟨1, (Zp e.kind).1⟩, ⟨6, Zl (Z8 e.claim).1⟩]
theorem Zhz {e : Entry} (h : Zba e) : 1 ≤ e.kind ∧ e.kind ≤ 3 := by
 rcases h with q | q | q <;> have := q.1 <;> omega
theorem Zjh {e : Entry} (h : Zba e) (hk : e.kind = 1) : (1 ≤ e.client ∧ e.client ≤ 3) ∧ (1 ≤ e.seq ∧ e.seq ≤ 1000000) ∧ e.text.size ≤ 200 := by
 rcases h with q | q | q
 ·exact ⟨⟨q.2.1, q.2.2.1⟩, ⟨q.2.2.2.1, q.2.2.2.2.1⟩, q.2.2.2.2.2.1⟩
 ·have := q.1; omega
 ·have := q.1; omega
theorem Z4e (a b : Field) (ha : 0 < a.tag) (hab : a.tag < b.tag) (hb : b.tag ≤ 255) (h1 : a.data.size ≤ 65536) (h2 : b.data.size ≤ 65536) : (Z6 [a, b] 0 []).2 = 0 := by
 have ea : Zez a 0 = 0 := by unfold Zez; rw [if_neg (by omega), if_neg (by omega), if_neg (by omega)]
 have eb : Zez b a.tag = 0 := by unfold Zez; rw [if_neg (by omega), if_neg (by omega), if_neg (by omega)]
 rw [Z6, if_pos ea, Z6, if_pos eb, Z6]
theorem Zky {e : Entry} (h : Zba e) : (Z6 (Zci e) 0 []).2 = 0 := by
 have hk := Zhz h
 have n1 := Za6 e.kind
 unfold Zci
 split
 ·rename_i h1
  have hu := Zjh h h1
  have n2 := Za6 e.client
  have n3 := Za6 e.seq
  have h := Zkn [(Zp e.kind).1, (Zp e.client).1, (Zp e.seq).1, e.text] 0 [] (by simp) (by
   intro x hx
   simp only [List.mem_cons, List.not_mem_nil, or_false] at hx
   rcases hx with rfl | rfl | rfl | rfl <;> omega)
  show (Z6 (Zd0 0 [(Zp e.kind).1, (Zp e.client).1, (Zp e.seq).1, e.text]) ((0 : Nat) : Int) []).2 = 0
  rw [h]
 ·split
  ·exact Z4e _ _ (by show (0 : Int) < 1; decide) (by show (1 : Int) < 5; decide) (by show (5 : Int) ≤ 255; decide) (by show (Zp e.kind).1.size ≤ 65536; omega) (by show (Zl (Za1 e.head).1).size ≤ 65536; rw [Zbc]; have := Zqv e.head; omega)
  ·exact Z4e _ _ (by show (0 : Int) < 1; decide) (by show (1 : Int) < 6; decide) (by show (6 : Int) ≤ 255; decide) (by show (Zp e.kind).1.size ≤ 65536; omega) (by show (Zl (Z8 e.claim).1).size ≤ 65536; rw [Zbc]; have := Zi3 e.claim; omega)
def Zaf (e : Entry) : Bs × Int := if Zba e then ((Z6 (Zci e) 0 []).1, 0) else ([], 60)
theorem Zpp {e : Entry} (h : Zba e) : (Zaf e).2 = 0 := by rw [show Zaf e = _ from if_pos h]
theorem Zsj {e : Entry} (h : (Zaf e).2 = 0) : Zba e := by
 refine Decidable.byContradiction fun q => ?_
 rw [show Zaf e = ([], 60) from if_neg q] at h; exact absurd h (by decide)
theorem Zj9 (e : Entry) : (Zaf e).1.length ≤ 2000 := by
 by_cases h : Zba e
 ·rw [show Zaf e = _ from if_pos h]
  show (Z6 (Zci e) 0 []).1.length ≤ 2000
  have h1 := Zh2 (Zci e) 0 []
  have n1 := Za6 e.kind
  have n2 := Za6 e.client
  have n3 := Za6 e.seq
  have n4 := Zqv e.head
  have n5 := Zi3 e.claim
  have h2 : Znm (Zci e) ≤ 2000 := by
   unfold Zci
   split
   ·have := (Zjh h (by assumption)).2.2
    simp only [Znm]; omega
   ·split
    ·simp only [Znm, Zbc]; omega
    ·simp only [Znm, Zbc]; omega
  simp only [List.length_nil] at h1
  omega
 ·rw [show Zaf e = ([], 60) from if_neg h]; exact Nat.zero_le _
def Zgf (x : Item) : List Field := [⟨1, (Zp x.epoch).1⟩, ⟨2, Zl (Zaf x.entry).1⟩]
theorem Zoz (x : Item) : (Z6 (Zgf x) 0 []).2 = 0 := by
 have n1 := Za6 x.epoch
 have n2 := Zj9 x.entry
 exact Z4e _ _ (by show (0 : Int) < 1; decide) (by show (1 : Int) < 2; decide) (by show (2 : Int) ≤ 255; decide) (by show (Zp x.epoch).1.size ≤ 65536; omega) (by show (Zl (Zaf x.entry).1).size ≤ 65536; rw [Zbc]; omega)
def Z7 (x : Item) : Bs × Int := if Zd9 x then ((Z6 (Zgf x) 0 []).1, 0) else ([], 60)
theorem Zpq {x : Item} (h : Zd9 x) : (Z7 x).2 = 0 := by rw [show Z7 x = _ from if_pos h]
theorem Z0j {x : Item} (h : (Z7 x).2 = 0) : Zd9 x := by
 refine Decidable.byContradiction fun q => ?_
 rw [show Z7 x = ([], 60) from if_neg q] at h; exact absurd h (by decide)
theorem Z4i {x : Item} (h : (Z7 x).2 ≠ 0) : (Z7 x).2 = 60 := by
 by_cases q : Zd9 x
 ·exact absurd (Zpq q) h
 ·rw [show Z7 x = ([], 60) from if_neg q]
theorem Zmv (x : Item) : (Z7 x).1.length ≤ 2100 := by
 unfold Z7
 split
 ·have h1 := Zh2 (Zgf x) 0 []
  have n1 := Za6 x.epoch
  have n2 := Zj9 x.entry
  simp only [Zgf, Znm, Zbc, List.length_nil] at h1
  show (Z6 (Zgf x) 0 []).1.length ≤ 2100
  simp only [Zgf]; omega
 ·exact Nat.zero_le _
def lfT (kk : Nat → BitVec 32) (s : ByteArray) : D := Zjl kk (Zek [Zjm, s])
def Zqy (kk : Nat → BitVec 32) (x : Item) : D × Int := if Zd9 x then (lfT kk (Zl (Z7 x).1), 0) else (dz, 60)
theorem Zr6 (e : Entry) : Zao Tryd.prog G 8 [Zaz e] [] (.tuple #[slv 0 0 (Zaf e).1.length (Zaf e).1.length, Iv (Zaf e).2]) [Zy (Zaf e).1] := by
  refine Zbv (fn := Tryd.f8) (nt := 57) rfl rfl rfl rfl ?_
  refine Zat 5 (H' := [hole, hole, hole, hole, hole]) rfl ?_
  refine Zg (Zi ?_)
  refine Zel (v := Zaz e) (b := bxB 109 (Z2 e)) (nid := 0) (H' := [bxB 109 (Z2 e), hole, hole, hole, hole]) rfl rfl rfl (by kernel_rfl) (by kernel_rfl) ?_
  refine Zb rfl rfl (.slice none 0 0) rfl (Zb rfl rfl (Iv 0) rfl (Za (Zc (Zg (Zg (Zi ?_))))))
  refine Zo (p := pt 0 0) (v := Zaz e) rfl rfl rfl (by kernel_rfl) ?_
  refine Zs (Zjs (G := G) e) (vals := [Zaz e]) (res' := Iv (Zfl e)) rfl rfl rfl rfl rfl rfl ?_
  refine Zb rfl rfl (Iv (Zfl e)) rfl (Za (Zc (Zg (Zi (Zd rfl rfl (Iv (Zfl e)) rfl ?_)))))
  by_cases h1 : (Zfl e) ≠ 0
  refine Zn (vx := Iv (Zfl e)) (vy := Iv 0) rfl rfl (.bool true) rfl rfl (Zeg (by omega)) ?_
  refine Za (Zc (Z0 rfl (Zg (Zi (Zd rfl rfl (Iv (Zfl e)) rfl (Zb rfl rfl (.slice none 0 0) rfl (Zb rfl rfl (Iv (Zfl e)) rfl (Za (Zc ?_)))))))))
  refine Zcw (Zcq.nilTmp (i := 2) (b := 1) true 1 rfl (by decide) rfl) ?_
  refine Zv (Z5 (Zu ?_))
  rw [show Zaf e = ([], Zfl e) from by rw [show Zfl e = 60 from if_neg (Zt4 (by omega))]; exact if_neg (Zt4 (by omega))]
  exact Za5 [1] (v := .tuple #[slv 1 0 0 0, Iv (Zfl e)]) rfl (by kernel_rfl) rfl rfl (by decide) (by simp [Zac, Zy]) ⟨⟨rfl, rfl, rfl, by first | omega | exact Nat.le_refl _ | exact Nat.zero_le _ | (dsimp only; omega), by first | omega | exact Nat.le_refl _ | exact Nat.zero_le _ | (dsimp only; omega)⟩, rfl, trivial⟩
  refine Zn (vx := Iv (Zfl e)) (vy := Iv 0) rfl rfl (.bool false) rfl rfl (Zds (by omega)) ?_
  refine Za (Zc (Zx rfl (Zai (Zc (Zg (Zi ?_))))))
  refine Zae (b := rfB (.slice none 0 0)) (nid := 1) (H' := [bxB 109 (Z2 e), rfB (.slice none 0 0), hole, hole, hole]) rfl rfl (by kernel_rfl) (by kernel_rfl) ?_
  refine Za (Zc (Zg ?_))
  have hr := Z1s (e := e) (by omega)
  have hk := Zhz hr
  refine Zcw (Zcq.nilCell (k := 1) (j := 0) (b := 2) true 2 rfl (by decide) rfl (by show 0 < 1; decide) rfl rfl) ?_
  refine Zi ?_
  refine Zj (b := 0) (o := 0) (n := 0) (o' := 0) rfl rfl rfl rfl rfl ?_
  refine Zo (p := pt 0 0) (v := Iv e.kind) rfl rfl rfl (by kernel_rfl) ?_
  refine Zdg (e := [some (1, 0), some (2, 0)]) (nid := 0) (Zms (G := G) [] 0 1 e.kind rfl (by omega) (by omega) (by omega)) (vals := [pt 1 0, Iv 1, Iv e.kind]) (v := .tuple #[]) (H' := [bxB 109 (Z2 e), rfB (slv 2 0 1 1), rwB cFd ([] ++ [(⟨1, (Zp e.kind).1⟩ : Field)]), hole, hole]) rfl rfl rfl rfl rfl rfl ⟨⟨⟨rfl, rfl⟩, rfl, rfl, trivial⟩, ⟨(Zay rfl rfl rfl rfl), (Zay rfl rfl rfl rfl), trivial⟩, rfl, rfl, rfl, Nat.le_refl _⟩ (by kernel_rfl) rfl (by kernel_rfl) ?_
  refine Za (Zc (Zg (Zg (Zi ?_))))
  refine Zj (b := 0) (o := 0) (n := 0) (o' := 0) rfl rfl rfl rfl rfl ?_
  refine Zo (p := pt 0 0) (v := Iv e.kind) rfl rfl rfl (by kernel_rfl) ?_
  refine Za (Zc (Zap (Zg (Zi ?_))))
  by_cases h2 : e.kind = 1
  refine Zn (vx := Iv e.kind) (vy := Iv 1) rfl rfl (.bool true) rfl rfl (Zbs (by omega)) ?_
  refine Zb rfl rfl (.bool true) rfl (Za (Zc (Z0 rfl (Zg ?_))))
  have hu := Zjh hr (by omega)
  refine Zi ?_
  refine Zj (b := 0) (o := 0) (n := 1) (o' := 1) rfl rfl rfl rfl rfl ?_
  refine Zo (p := pt 0 1) (v := Iv e.client) rfl rfl rfl (by kernel_rfl) ?_
  refine Zdg (e := [some (1, 0), some (2, 0)]) (nid := 0) (Zms (G := G) ([] ++ [(⟨1, (Zp e.kind).1⟩ : Field)]) 1 2 e.client rfl (by omega) (by omega) (by omega)) (vals := [pt 1 0, Iv 2, Iv e.client]) (v := .tuple #[]) (H' := [bxB 109 (Z2 e), rfB (slv 2 0 2 2), rwB cFd (([] ++ [(⟨1, (Zp e.kind).1⟩ : Field)]) ++ [(⟨2, (Zp e.client).1⟩ : Field)]), hole, hole]) rfl rfl rfl rfl rfl rfl ⟨⟨⟨rfl, rfl⟩, rfl, rfl, trivial⟩, ⟨(Zay rfl rfl rfl rfl), (Zay rfl rfl rfl rfl), trivial⟩, rfl, rfl, rfl, Nat.le_refl _⟩ (by kernel_rfl) rfl (by kernel_rfl) ?_
  refine Za (Zc (Zg (Zi ?_)))
  refine Zj (b := 0) (o := 0) (n := 2) (o' := 2) rfl rfl rfl rfl rfl ?_
  refine Zo (p := pt 0 2) (v := Iv e.seq) rfl rfl rfl (by kernel_rfl) ?_
  refine Zdg (e := [some (1, 0), some (2, 0)]) (nid := 0) (Zms (G := G) (([] ++ [(⟨1, (Zp e.kind).1⟩ : Field)]) ++ [(⟨2, (Zp e.client).1⟩ : Field)]) 2 3 e.seq rfl (by omega) (by omega) (by omega)) (vals := [pt 1 0, Iv 3, Iv e.seq]) (v := .tuple #[]) (H' := [bxB 109 (Z2 e), rfB (slv 2 0 3 3), rwB cFd ((([] ++ [(⟨1, (Zp e.kind).1⟩ : Field)]) ++ [(⟨2, (Zp e.client).1⟩ : Field)]) ++ [(⟨3, (Zp e.seq).1⟩ : Field)]), hole, hole]) rfl rfl rfl rfl rfl rfl ⟨⟨⟨rfl, rfl⟩, rfl, rfl, trivial⟩, ⟨(Zay rfl rfl rfl rfl), (Zay rfl rfl rfl rfl), trivial⟩, rfl, rfl, rfl, Nat.le_refl _⟩ (by kernel_rfl) rfl (by kernel_rfl) ?_
  refine Za (Zc (Zi ?_))
  refine Zj (b := 0) (o := 0) (n := 3) (o' := 3) rfl rfl rfl rfl rfl ?_
  refine Zo (p := pt 0 3) (v := .string e.text) rfl rfl rfl (by kernel_rfl) ?_
  refine Zdg (e := [some (1, 0), some (2, 0)]) (nid := 0) (Zkh (G := G) ((([] ++ [(⟨1, (Zp e.kind).1⟩ : Field)]) ++ [(⟨2, (Zp e.client).1⟩ : Field)]) ++ [(⟨3, (Zp e.seq).1⟩ : Field)]) 3 4 e.text rfl (by omega)) (vals := [pt 1 0, Iv 4, .string e.text]) (v := .tuple #[]) (H' := [bxB 109 (Z2 e), rfB (slv 2 0 4 4), rwB cFd (((([] ++ [(⟨1, (Zp e.kind).1⟩ : Field)]) ++ [(⟨2, (Zp e.client).1⟩ : Field)]) ++ [(⟨3, (Zp e.seq).1⟩ : Field)]) ++ [(⟨4, e.text⟩ : Field)]), hole, hole]) rfl rfl rfl rfl rfl rfl ⟨⟨⟨rfl, rfl⟩, rfl, rfl, trivial⟩, ⟨(Zay rfl rfl rfl rfl), (Zay rfl rfl rfl rfl), trivial⟩, rfl, rfl, rfl, Nat.le_refl _⟩ (by kernel_rfl) rfl (by kernel_rfl) ?_
  refine Za (Z1 (Zc (Zg (Zi ?_))))
  refine Zo (p := pt 1 0) (v := slv 2 0 4 4) rfl rfl rfl rfl ?_
  refine Zad (e := [some (2, 0)]) (nid := 3) (Zg4 (G := G) (((([] ++ [(⟨1, (Zp e.kind).1⟩ : Field)]) ++ [(⟨2, (Zp e.client).1⟩ : Field)]) ++ [(⟨3, (Zp e.seq).1⟩ : Field)]) ++ [(⟨4, e.text⟩ : Field)]) 4 4 rfl (by omega) (by omega)) (vals := [slv 2 0 4 4]) (v := .tuple #[slv 3 0 ((Z6 (((([] ++ [(⟨1, (Zp e.kind).1⟩ : Field)]) ++ [(⟨2, (Zp e.client).1⟩ : Field)]) ++ [(⟨3, (Zp e.seq).1⟩ : Field)]) ++ [(⟨4, e.text⟩ : Field)]) 0 []).1.length) ((Z6 (((([] ++ [(⟨1, (Zp e.kind).1⟩ : Field)]) ++ [(⟨2, (Zp e.client).1⟩ : Field)]) ++ [(⟨3, (Zp e.seq).1⟩ : Field)]) ++ [(⟨4, e.text⟩ : Field)]) 0 []).1.length), Iv ((Z6 (((([] ++ [(⟨1, (Zp e.kind).1⟩ : Field)]) ++ [(⟨2, (Zp e.client).1⟩ : Field)]) ++ [(⟨3, (Zp e.seq).1⟩ : Field)]) ++ [(⟨4, e.text⟩ : Field)]) 0 []).2)]) (H' := [bxB 109 (Z2 e), rfB (slv 2 0 4 4), rwB cFd (((([] ++ [(⟨1, (Zp e.kind).1⟩ : Field)]) ++ [(⟨2, (Zp e.client).1⟩ : Field)]) ++ [(⟨3, (Zp e.seq).1⟩ : Field)]) ++ [(⟨4, e.text⟩ : Field)]), Zy ((Z6 (((([] ++ [(⟨1, (Zp e.kind).1⟩ : Field)]) ++ [(⟨2, (Zp e.client).1⟩ : Field)]) ++ [(⟨3, (Zp e.seq).1⟩ : Field)]) ++ [(⟨4, e.text⟩ : Field)]) 0 []).1), hole]) rfl rfl rfl rfl rfl rfl rfl ⟨⟨⟨rfl, rfl, rfl, by first | omega | exact Nat.le_refl _, by first | omega | exact Nat.le_refl _⟩, trivial⟩, ⟨(Zia rfl), trivial⟩, rfl, rfl, rfl⟩ (by kernel_rfl) (by kernel_rfl) ?_
  refine Zt (vs := #[slv 3 0 ((Z6 (((([] ++ [(⟨1, (Zp e.kind).1⟩ : Field)]) ++ [(⟨2, (Zp e.client).1⟩ : Field)]) ++ [(⟨3, (Zp e.seq).1⟩ : Field)]) ++ [(⟨4, e.text⟩ : Field)]) 0 []).1.length) ((Z6 (((([] ++ [(⟨1, (Zp e.kind).1⟩ : Field)]) ++ [(⟨2, (Zp e.client).1⟩ : Field)]) ++ [(⟨3, (Zp e.seq).1⟩ : Field)]) ++ [(⟨4, e.text⟩ : Field)]) 0 []).1.length), Iv ((Z6 (((([] ++ [(⟨1, (Zp e.kind).1⟩ : Field)]) ++ [(⟨2, (Zp e.client).1⟩ : Field)]) ++ [(⟨3, (Zp e.seq).1⟩ : Field)]) ++ [(⟨4, e.text⟩ : Field)]) 0 []).2)]) (v := slv 3 0 ((Z6 (((([] ++ [(⟨1, (Zp e.kind).1⟩ : Field)]) ++ [(⟨2, (Zp e.client).1⟩ : Field)]) ++ [(⟨3, (Zp e.seq).1⟩ : Field)]) ++ [(⟨4, e.text⟩ : Field)]) 0 []).1.length) ((Z6 (((([] ++ [(⟨1, (Zp e.kind).1⟩ : Field)]) ++ [(⟨2, (Zp e.client).1⟩ : Field)]) ++ [(⟨3, (Zp e.seq).1⟩ : Field)]) ++ [(⟨4, e.text⟩ : Field)]) 0 []).1.length)) rfl rfl rfl rfl (Zt (vs := #[slv 3 0 ((Z6 (((([] ++ [(⟨1, (Zp e.kind).1⟩ : Field)]) ++ [(⟨2, (Zp e.client).1⟩ : Field)]) ++ [(⟨3, (Zp e.seq).1⟩ : Field)]) ++ [(⟨4, e.text⟩ : Field)]) 0 []).1.length) ((Z6 (((([] ++ [(⟨1, (Zp e.kind).1⟩ : Field)]) ++ [(⟨2, (Zp e.client).1⟩ : Field)]) ++ [(⟨3, (Zp e.seq).1⟩ : Field)]) ++ [(⟨4, e.text⟩ : Field)]) 0 []).1.length), Iv ((Z6 (((([] ++ [(⟨1, (Zp e.kind).1⟩ : Field)]) ++ [(⟨2, (Zp e.client).1⟩ : Field)]) ++ [(⟨3, (Zp e.seq).1⟩ : Field)]) ++ [(⟨4, e.text⟩ : Field)]) 0 []).2)]) (v := Iv ((Z6 (((([] ++ [(⟨1, (Zp e.kind).1⟩ : Field)]) ++ [(⟨2, (Zp e.client).1⟩ : Field)]) ++ [(⟨3, (Zp e.seq).1⟩ : Field)]) ++ [(⟨4, e.text⟩ : Field)]) 0 []).2)) rfl rfl rfl rfl (Zb rfl rfl (slv 3 0 ((Z6 (((([] ++ [(⟨1, (Zp e.kind).1⟩ : Field)]) ++ [(⟨2, (Zp e.client).1⟩ : Field)]) ++ [(⟨3, (Zp e.seq).1⟩ : Field)]) ++ [(⟨4, e.text⟩ : Field)]) 0 []).1.length) ((Z6 (((([] ++ [(⟨1, (Zp e.kind).1⟩ : Field)]) ++ [(⟨2, (Zp e.client).1⟩ : Field)]) ++ [(⟨3, (Zp e.seq).1⟩ : Field)]) ++ [(⟨4, e.text⟩ : Field)]) 0 []).1.length)) rfl (Zb rfl rfl (Iv ((Z6 (((([] ++ [(⟨1, (Zp e.kind).1⟩ : Field)]) ++ [(⟨2, (Zp e.client).1⟩ : Field)]) ++ [(⟨3, (Zp e.seq).1⟩ : Field)]) ++ [(⟨4, e.text⟩ : Field)]) 0 []).2)) rfl (Za (Zc (Zv (Zu ?_)))))))
  have ee : (((([] ++ [(⟨1, (Zp e.kind).1⟩ : Field)]) ++ [(⟨2, (Zp e.client).1⟩ : Field)]) ++ [(⟨3, (Zp e.seq).1⟩ : Field)]) ++ [(⟨4, e.text⟩ : Field)]) = Zci e := by unfold Zci; first | (rw [if_pos (by omega)]; done) | (rw [if_pos (by omega)]; rfl) | (rw [if_neg (by omega), if_pos (by omega)]; rfl) | (rw [if_neg (by omega), if_neg (by omega)]; rfl)
  have ez := Zky hr
  rw [← ee] at ez
  rw [show Zaf e = ((Z6 (((([] ++ [(⟨1, (Zp e.kind).1⟩ : Field)]) ++ [(⟨2, (Zp e.client).1⟩ : Field)]) ++ [(⟨3, (Zp e.seq).1⟩ : Field)]) ++ [(⟨4, e.text⟩ : Field)]) 0 []).1, (Z6 (((([] ++ [(⟨1, (Zp e.kind).1⟩ : Field)]) ++ [(⟨2, (Zp e.client).1⟩ : Field)]) ++ [(⟨3, (Zp e.seq).1⟩ : Field)]) ++ [(⟨4, e.text⟩ : Field)]) 0 []).2) from by rw [ez, ee]; exact if_pos hr]
  exact Za5 [3] (v := .tuple #[slv 3 0 ((Z6 (((([] ++ [(⟨1, (Zp e.kind).1⟩ : Field)]) ++ [(⟨2, (Zp e.client).1⟩ : Field)]) ++ [(⟨3, (Zp e.seq).1⟩ : Field)]) ++ [(⟨4, e.text⟩ : Field)]) 0 []).1.length) ((Z6 (((([] ++ [(⟨1, (Zp e.kind).1⟩ : Field)]) ++ [(⟨2, (Zp e.client).1⟩ : Field)]) ++ [(⟨3, (Zp e.seq).1⟩ : Field)]) ++ [(⟨4, e.text⟩ : Field)]) 0 []).1.length), Iv ((Z6 (((([] ++ [(⟨1, (Zp e.kind).1⟩ : Field)]) ++ [(⟨2, (Zp e.client).1⟩ : Field)]) ++ [(⟨3, (Zp e.seq).1⟩ : Field)]) ++ [(⟨4, e.text⟩ : Field)]) 0 []).2)]) rfl (by kernel_rfl) rfl rfl (by decide) (by simp [Zac, Zy]) ⟨⟨rfl, rfl, rfl, by first | omega | exact Nat.le_refl _ | exact Nat.zero_le _ | (dsimp only; omega), by first | omega | exact Nat.le_refl _ | exact Nat.zero_le _ | (dsimp only; omega)⟩, rfl, trivial⟩
  refine Zn (vx := Iv e.kind) (vy := Iv 1) rfl rfl (.bool false) rfl rfl (Zb6 (by omega)) ?_
  refine Zb rfl rfl (.bool false) rfl (Za (Zc (Zx rfl (Zg (Zi ?_)))))
  by_cases h3 : e.kind = 2
  refine Zn (vx := Iv e.kind) (vy := Iv 2) rfl rfl (.bool true) rfl rfl (Zbs (by omega)) ?_
  refine Zb rfl rfl (.bool true) rfl (Za (Zc (Z0 rfl (Zg (Zi ?_)))))
  refine Zj (b := 0) (o := 0) (n := 4) (o' := 4) rfl rfl rfl rfl rfl ?_
  refine Zo (p := pt 0 4) (v := Zaa e.head) rfl rfl rfl (by kernel_rfl) ?_
  refine Zad (e := []) (nid := 3) (Zr9 (G := G) e.head) (vals := [Zaa e.head]) (v := .tuple #[slv 3 0 ((Za1 e.head).1.length) ((Za1 e.head).1.length), Iv ((Za1 e.head).2)]) (H' := [bxB 109 (Z2 e), rfB (slv 2 0 1 1), rwB cFd ([] ++ [(⟨1, (Zp e.kind).1⟩ : Field)]), Zy ((Za1 e.head).1), hole]) rfl rfl rfl rfl rfl rfl rfl ⟨⟨rfl, trivial⟩, trivial, rfl, rfl, rfl⟩ (by kernel_rfl) (by kernel_rfl) ?_
  refine Zd rfl rfl (.tuple #[slv 3 0 ((Za1 e.head).1.length) ((Za1 e.head).1.length), Iv ((Za1 e.head).2)]) rfl (Zt (vs := #[slv 3 0 ((Za1 e.head).1.length) ((Za1 e.head).1.length), Iv ((Za1 e.head).2)]) (v := slv 3 0 ((Za1 e.head).1.length) ((Za1 e.head).1.length)) rfl rfl rfl rfl (Zt (vs := #[slv 3 0 ((Za1 e.head).1.length) ((Za1 e.head).1.length), Iv ((Za1 e.head).2)]) (v := Iv ((Za1 e.head).2)) rfl rfl rfl rfl (Zb rfl rfl (slv 3 0 ((Za1 e.head).1.length) ((Za1 e.head).1.length)) rfl (Zb rfl rfl (Iv ((Za1 e.head).2)) rfl (Za (Zc (Zi (Zd rfl rfl (slv 3 0 ((Za1 e.head).1.length) ((Za1 e.head).1.length)) rfl ?_))))))))
  refine Zc6 (p := slv 3 0 ((Za1 e.head).1.length) ((Za1 e.head).1.length)) (v := .string (Zl ((Za1 e.head).1))) rfl rfl rfl (Zbi rfl rfl rfl rfl rfl (by omega)) ?_
  refine Zdg (e := [some (1, 0), some (2, 0)]) (nid := 0) (Zkh (G := G) ([] ++ [(⟨1, (Zp e.kind).1⟩ : Field)]) 1 5 (Zl ((Za1 e.head).1)) rfl (by omega)) (vals := [pt 1 0, Iv 5, .string (Zl ((Za1 e.head).1))]) (v := .tuple #[]) (H' := [bxB 109 (Z2 e), rfB (slv 2 0 2 2), rwB cFd (([] ++ [(⟨1, (Zp e.kind).1⟩ : Field)]) ++ [(⟨5, (Zl ((Za1 e.head).1))⟩ : Field)]), Zy ((Za1 e.head).1), hole]) rfl rfl rfl rfl rfl rfl ⟨⟨⟨rfl, rfl⟩, rfl, rfl, trivial⟩, ⟨(Zay rfl rfl rfl rfl), (Zay rfl rfl rfl rfl), trivial⟩, rfl, rfl, rfl, Nat.le_refl _⟩ (by kernel_rfl) rfl (by kernel_rfl) ?_
  refine Za (Z1 (Zc (Zg (Zi ?_))))
  refine Zo (p := pt 1 0) (v := slv 2 0 2 2) rfl rfl rfl rfl ?_
  refine Zad (e := [some (2, 0)]) (nid := 4) (Zg4 (G := G) (([] ++ [(⟨1, (Zp e.kind).1⟩ : Field)]) ++ [(⟨5, (Zl ((Za1 e.head).1))⟩ : Field)]) 2 2 rfl (by omega) (by omega)) (vals := [slv 2 0 2 2]) (v := .tuple #[slv 4 0 ((Z6 (([] ++ [(⟨1, (Zp e.kind).1⟩ : Field)]) ++ [(⟨5, (Zl ((Za1 e.head).1))⟩ : Field)]) 0 []).1.length) ((Z6 (([] ++ [(⟨1, (Zp e.kind).1⟩ : Field)]) ++ [(⟨5, (Zl ((Za1 e.head).1))⟩ : Field)]) 0 []).1.length), Iv ((Z6 (([] ++ [(⟨1, (Zp e.kind).1⟩ : Field)]) ++ [(⟨5, (Zl ((Za1 e.head).1))⟩ : Field)]) 0 []).2)]) (H' := [bxB 109 (Z2 e), rfB (slv 2 0 2 2), rwB cFd (([] ++ [(⟨1, (Zp e.kind).1⟩ : Field)]) ++ [(⟨5, (Zl ((Za1 e.head).1))⟩ : Field)]), Zy ((Za1 e.head).1), Zy ((Z6 (([] ++ [(⟨1, (Zp e.kind).1⟩ : Field)]) ++ [(⟨5, (Zl ((Za1 e.head).1))⟩ : Field)]) 0 []).1)]) rfl rfl rfl rfl rfl rfl rfl ⟨⟨⟨rfl, rfl, rfl, by first | omega | exact Nat.le_refl _, by first | omega | exact Nat.le_refl _⟩, trivial⟩, ⟨(Zia rfl), trivial⟩, rfl, rfl, rfl⟩ (by kernel_rfl) (by kernel_rfl) ?_
  refine Zt (vs := #[slv 4 0 ((Z6 (([] ++ [(⟨1, (Zp e.kind).1⟩ : Field)]) ++ [(⟨5, (Zl ((Za1 e.head).1))⟩ : Field)]) 0 []).1.length) ((Z6 (([] ++ [(⟨1, (Zp e.kind).1⟩ : Field)]) ++ [(⟨5, (Zl ((Za1 e.head).1))⟩ : Field)]) 0 []).1.length), Iv ((Z6 (([] ++ [(⟨1, (Zp e.kind).1⟩ : Field)]) ++ [(⟨5, (Zl ((Za1 e.head).1))⟩ : Field)]) 0 []).2)]) (v := slv 4 0 ((Z6 (([] ++ [(⟨1, (Zp e.kind).1⟩ : Field)]) ++ [(⟨5, (Zl ((Za1 e.head).1))⟩ : Field)]) 0 []).1.length) ((Z6 (([] ++ [(⟨1, (Zp e.kind).1⟩ : Field)]) ++ [(⟨5, (Zl ((Za1 e.head).1))⟩ : Field)]) 0 []).1.length)) rfl rfl rfl rfl (Zt (vs := #[slv 4 0 ((Z6 (([] ++ [(⟨1, (Zp e.kind).1⟩ : Field)]) ++ [(⟨5, (Zl ((Za1 e.head).1))⟩ : Field)]) 0 []).1.length) ((Z6 (([] ++ [(⟨1, (Zp e.kind).1⟩ : Field)]) ++ [(⟨5, (Zl ((Za1 e.head).1))⟩ : Field)]) 0 []).1.length), Iv ((Z6 (([] ++ [(⟨1, (Zp e.kind).1⟩ : Field)]) ++ [(⟨5, (Zl ((Za1 e.head).1))⟩ : Field)]) 0 []).2)]) (v := Iv ((Z6 (([] ++ [(⟨1, (Zp e.kind).1⟩ : Field)]) ++ [(⟨5, (Zl ((Za1 e.head).1))⟩ : Field)]) 0 []).2)) rfl rfl rfl rfl (Zb rfl rfl (slv 4 0 ((Z6 (([] ++ [(⟨1, (Zp e.kind).1⟩ : Field)]) ++ [(⟨5, (Zl ((Za1 e.head).1))⟩ : Field)]) 0 []).1.length) ((Z6 (([] ++ [(⟨1, (Zp e.kind).1⟩ : Field)]) ++ [(⟨5, (Zl ((Za1 e.head).1))⟩ : Field)]) 0 []).1.length)) rfl (Zb rfl rfl (Iv ((Z6 (([] ++ [(⟨1, (Zp e.kind).1⟩ : Field)]) ++ [(⟨5, (Zl ((Za1 e.head).1))⟩ : Field)]) 0 []).2)) rfl (Za (Zc (Zv (Zu ?_)))))))
  have ee : (([] ++ [(⟨1, (Zp e.kind).1⟩ : Field)]) ++ [(⟨5, (Zl ((Za1 e.head).1))⟩ : Field)]) = Zci e := by unfold Zci; first | (rw [if_pos (by omega)]; done) | (rw [if_pos (by omega)]; rfl) | (rw [if_neg (by omega), if_pos (by omega)]; rfl) | (rw [if_neg (by omega), if_neg (by omega)]; rfl)
  have ez := Zky hr
  rw [← ee] at ez
  rw [show Zaf e = ((Z6 (([] ++ [(⟨1, (Zp e.kind).1⟩ : Field)]) ++ [(⟨5, (Zl ((Za1 e.head).1))⟩ : Field)]) 0 []).1, (Z6 (([] ++ [(⟨1, (Zp e.kind).1⟩ : Field)]) ++ [(⟨5, (Zl ((Za1 e.head).1))⟩ : Field)]) 0 []).2) from by rw [ez, ee]; exact if_pos hr]
  exact Za5 [4] (v := .tuple #[slv 4 0 ((Z6 (([] ++ [(⟨1, (Zp e.kind).1⟩ : Field)]) ++ [(⟨5, (Zl ((Za1 e.head).1))⟩ : Field)]) 0 []).1.length) ((Z6 (([] ++ [(⟨1, (Zp e.kind).1⟩ : Field)]) ++ [(⟨5, (Zl ((Za1 e.head).1))⟩ : Field)]) 0 []).1.length), Iv ((Z6 (([] ++ [(⟨1, (Zp e.kind).1⟩ : Field)]) ++ [(⟨5, (Zl ((Za1 e.head).1))⟩ : Field)]) 0 []).2)]) rfl (by kernel_rfl) rfl rfl (by decide) (by simp [Zac, Zy]) ⟨⟨rfl, rfl, rfl, by first | omega | exact Nat.le_refl _ | exact Nat.zero_le _ | (dsimp only; omega), by first | omega | exact Nat.le_refl _ | exact Nat.zero_le _ | (dsimp only; omega)⟩, rfl, trivial⟩
  refine Zn (vx := Iv e.kind) (vy := Iv 2) rfl rfl (.bool false) rfl rfl (Zb6 (by omega)) ?_
  refine Zb rfl rfl (.bool false) rfl (Za (Zc (Zx rfl (Zg (Zi ?_)))))
  refine Zn (vx := Iv e.kind) (vy := Iv 3) rfl rfl (.bool true) rfl rfl (Zbs (by omega)) ?_
  refine Zb rfl rfl (.bool true) rfl (Za (Zc (Z0 rfl (Zg (Zi ?_)))))
  refine Zj (b := 0) (o := 0) (n := 73) (o' := 73) rfl rfl rfl rfl rfl ?_
  refine Zo (p := pt 0 73) (v := Zz e.claim) rfl rfl rfl (by kernel_rfl) ?_
  refine Zad (e := []) (nid := 3) (Zh9 (G := G) e.claim) (vals := [Zz e.claim]) (v := .tuple #[slv 3 0 ((Z8 e.claim).1.length) ((Z8 e.claim).1.length), Iv ((Z8 e.claim).2)]) (H' := [bxB 109 (Z2 e), rfB (slv 2 0 1 1), rwB cFd ([] ++ [(⟨1, (Zp e.kind).1⟩ : Field)]), Zy ((Z8 e.claim).1), hole]) rfl rfl rfl rfl rfl rfl rfl ⟨⟨rfl, trivial⟩, trivial, rfl, rfl, rfl⟩ (by kernel_rfl) (by kernel_rfl) ?_
  refine Zd rfl rfl (.tuple #[slv 3 0 ((Z8 e.claim).1.length) ((Z8 e.claim).1.length), Iv ((Z8 e.claim).2)]) rfl (Zt (vs := #[slv 3 0 ((Z8 e.claim).1.length) ((Z8 e.claim).1.length), Iv ((Z8 e.claim).2)]) (v := slv 3 0 ((Z8 e.claim).1.length) ((Z8 e.claim).1.length)) rfl rfl rfl rfl (Zt (vs := #[slv 3 0 ((Z8 e.claim).1.length) ((Z8 e.claim).1.length), Iv ((Z8 e.claim).2)]) (v := Iv ((Z8 e.claim).2)) rfl rfl rfl rfl (Zb rfl rfl (slv 3 0 ((Z8 e.claim).1.length) ((Z8 e.claim).1.length)) rfl (Zb rfl rfl (Iv ((Z8 e.claim).2)) rfl (Za (Zc (Zi (Zd rfl rfl (slv 3 0 ((Z8 e.claim).1.length) ((Z8 e.claim).1.length)) rfl ?_))))))))
  refine Zc6 (p := slv 3 0 ((Z8 e.claim).1.length) ((Z8 e.claim).1.length)) (v := .string (Zl ((Z8 e.claim).1))) rfl rfl rfl (Zbi rfl rfl rfl rfl rfl (by omega)) ?_
  refine Zdg (e := [some (1, 0), some (2, 0)]) (nid := 0) (Zkh (G := G) ([] ++ [(⟨1, (Zp e.kind).1⟩ : Field)]) 1 6 (Zl ((Z8 e.claim).1)) rfl (by omega)) (vals := [pt 1 0, Iv 6, .string (Zl ((Z8 e.claim).1))]) (v := .tuple #[]) (H' := [bxB 109 (Z2 e), rfB (slv 2 0 2 2), rwB cFd (([] ++ [(⟨1, (Zp e.kind).1⟩ : Field)]) ++ [(⟨6, (Zl ((Z8 e.claim).1))⟩ : Field)]), Zy ((Z8 e.claim).1), hole]) rfl rfl rfl rfl rfl rfl ⟨⟨⟨rfl, rfl⟩, rfl, rfl, trivial⟩, ⟨(Zay rfl rfl rfl rfl), (Zay rfl rfl rfl rfl), trivial⟩, rfl, rfl, rfl, Nat.le_refl _⟩ (by kernel_rfl) rfl (by kernel_rfl) ?_
  refine Za (Z1 (Zc (Zg (Zi ?_))))
  refine Zo (p := pt 1 0) (v := slv 2 0 2 2) rfl rfl rfl rfl ?_
  refine Zad (e := [some (2, 0)]) (nid := 4) (Zg4 (G := G) (([] ++ [(⟨1, (Zp e.kind).1⟩ : Field)]) ++ [(⟨6, (Zl ((Z8 e.claim).1))⟩ : Field)]) 2 2 rfl (by omega) (by omega)) (vals := [slv 2 0 2 2]) (v := .tuple #[slv 4 0 ((Z6 (([] ++ [(⟨1, (Zp e.kind).1⟩ : Field)]) ++ [(⟨6, (Zl ((Z8 e.claim).1))⟩ : Field)]) 0 []).1.length) ((Z6 (([] ++ [(⟨1, (Zp e.kind).1⟩ : Field)]) ++ [(⟨6, (Zl ((Z8 e.claim).1))⟩ : Field)]) 0 []).1.length), Iv ((Z6 (([] ++ [(⟨1, (Zp e.kind).1⟩ : Field)]) ++ [(⟨6, (Zl ((Z8 e.claim).1))⟩ : Field)]) 0 []).2)]) (H' := [bxB 109 (Z2 e), rfB (slv 2 0 2 2), rwB cFd (([] ++ [(⟨1, (Zp e.kind).1⟩ : Field)]) ++ [(⟨6, (Zl ((Z8 e.claim).1))⟩ : Field)]), Zy ((Z8 e.claim).1), Zy ((Z6 (([] ++ [(⟨1, (Zp e.kind).1⟩ : Field)]) ++ [(⟨6, (Zl ((Z8 e.claim).1))⟩ : Field)]) 0 []).1)]) rfl rfl rfl rfl rfl rfl rfl ⟨⟨⟨rfl, rfl, rfl, by first | omega | exact Nat.le_refl _, by first | omega | exact Nat.le_refl _⟩, trivial⟩, ⟨(Zia rfl), trivial⟩, rfl, rfl, rfl⟩ (by kernel_rfl) (by kernel_rfl) ?_
  refine Zt (vs := #[slv 4 0 ((Z6 (([] ++ [(⟨1, (Zp e.kind).1⟩ : Field)]) ++ [(⟨6, (Zl ((Z8 e.claim).1))⟩ : Field)]) 0 []).1.length) ((Z6 (([] ++ [(⟨1, (Zp e.kind).1⟩ : Field)]) ++ [(⟨6, (Zl ((Z8 e.claim).1))⟩ : Field)]) 0 []).1.length), Iv ((Z6 (([] ++ [(⟨1, (Zp e.kind).1⟩ : Field)]) ++ [(⟨6, (Zl ((Z8 e.claim).1))⟩ : Field)]) 0 []).2)]) (v := slv 4 0 ((Z6 (([] ++ [(⟨1, (Zp e.kind).1⟩ : Field)]) ++ [(⟨6, (Zl ((Z8 e.claim).1))⟩ : Field)]) 0 []).1.length) ((Z6 (([] ++ [(⟨1, (Zp e.kind).1⟩ : Field)]) ++ [(⟨6, (Zl ((Z8 e.claim).1))⟩ : Field)]) 0 []).1.length)) rfl rfl rfl rfl (Zt (vs := #[slv 4 0 ((Z6 (([] ++ [(⟨1, (Zp e.kind).1⟩ : Field)]) ++ [(⟨6, (Zl ((Z8 e.claim).1))⟩ : Field)]) 0 []).1.length) ((Z6 (([] ++ [(⟨1, (Zp e.kind).1⟩ : Field)]) ++ [(⟨6, (Zl ((Z8 e.claim).1))⟩ : Field)]) 0 []).1.length), Iv ((Z6 (([] ++ [(⟨1, (Zp e.kind).1⟩ : Field)]) ++ [(⟨6, (Zl ((Z8 e.claim).1))⟩ : Field)]) 0 []).2)]) (v := Iv ((Z6 (([] ++ [(⟨1, (Zp e.kind).1⟩ : Field)]) ++ [(⟨6, (Zl ((Z8 e.claim).1))⟩ : Field)]) 0 []).2)) rfl rfl rfl rfl (Zb rfl rfl (slv 4 0 ((Z6 (([] ++ [(⟨1, (Zp e.kind).1⟩ : Field)]) ++ [(⟨6, (Zl ((Z8 e.claim).1))⟩ : Field)]) 0 []).1.length) ((Z6 (([] ++ [(⟨1, (Zp e.kind).1⟩ : Field)]) ++ [(⟨6, (Zl ((Z8 e.claim).1))⟩ : Field)]) 0 []).1.length)) rfl (Zb rfl rfl (Iv ((Z6 (([] ++ [(⟨1, (Zp e.kind).1⟩ : Field)]) ++ [(⟨6, (Zl ((Z8 e.claim).1))⟩ : Field)]) 0 []).2)) rfl (Za (Zc (Zv (Zu ?_)))))))
  have ee : (([] ++ [(⟨1, (Zp e.kind).1⟩ : Field)]) ++ [(⟨6, (Zl ((Z8 e.claim).1))⟩ : Field)]) = Zci e := by unfold Zci; first | (rw [if_pos (by omega)]; done) | (rw [if_pos (by omega)]; rfl) | (rw [if_neg (by omega), if_pos (by omega)]; rfl) | (rw [if_neg (by omega), if_neg (by omega)]; rfl)
  have ez := Zky hr
  rw [← ee] at ez
  rw [show Zaf e = ((Z6 (([] ++ [(⟨1, (Zp e.kind).1⟩ : Field)]) ++ [(⟨6, (Zl ((Z8 e.claim).1))⟩ : Field)]) 0 []).1, (Z6 (([] ++ [(⟨1, (Zp e.kind).1⟩ : Field)]) ++ [(⟨6, (Zl ((Z8 e.claim).1))⟩ : Field)]) 0 []).2) from by rw [ez, ee]; exact if_pos hr]
  exact Za5 [4] (v := .tuple #[slv 4 0 ((Z6 (([] ++ [(⟨1, (Zp e.kind).1⟩ : Field)]) ++ [(⟨6, (Zl ((Z8 e.claim).1))⟩ : Field)]) 0 []).1.length) ((Z6 (([] ++ [(⟨1, (Zp e.kind).1⟩ : Field)]) ++ [(⟨6, (Zl ((Z8 e.claim).1))⟩ : Field)]) 0 []).1.length), Iv ((Z6 (([] ++ [(⟨1, (Zp e.kind).1⟩ : Field)]) ++ [(⟨6, (Zl ((Z8 e.claim).1))⟩ : Field)]) 0 []).2)]) rfl (by kernel_rfl) rfl rfl (by decide) (by simp [Zac, Zy]) ⟨⟨rfl, rfl, rfl, by first | omega | exact Nat.le_refl _ | exact Nat.zero_le _ | (dsimp only; omega), by first | omega | exact Nat.le_refl _ | exact Nat.zero_le _ | (dsimp only; omega)⟩, rfl, trivial⟩
theorem Zi8 (x : Item) : Zao Tryd.prog G 13 [Za4 x] [] (.tuple #[slv 0 0 (Z7 x).1.length (Z7 x).1.length, Iv (Z7 x).2]) [Zy (Z7 x).1] := by
  refine Zbv (fn := Tryd.f13) (nt := 31) rfl rfl rfl rfl ?_
  refine Zat 5 (H' := [hole, hole, hole, hole, hole]) rfl ?_
  refine Zg (Zi ?_)
  refine Zel (v := Za4 x) (b := bxB 110 (Zab x)) (nid := 0) (H' := [bxB 110 (Zab x), hole, hole, hole, hole]) rfl rfl rfl (by kernel_rfl) (by kernel_rfl) ?_
  refine Zb rfl rfl (.slice none 0 0) rfl (Zb rfl rfl (Iv 0) rfl (Za (Zc (Zg (Zi ?_)))))
  refine Zj (b := 0) (o := 0) (n := 1) (o' := 1) rfl rfl rfl rfl rfl ?_
  refine Zo (p := pt 0 1) (v := Zaz x.entry) rfl rfl rfl (by kernel_rfl) ?_
  refine Zad (e := []) (nid := 1) (Zr6 (G := G) x.entry) (vals := [Zaz x.entry]) (v := .tuple #[slv 1 0 ((Zaf x.entry).1.length) ((Zaf x.entry).1.length), Iv ((Zaf x.entry).2)]) (H' := [bxB 110 (Zab x), Zy ((Zaf x.entry).1), hole, hole, hole]) rfl rfl rfl rfl rfl rfl rfl ⟨⟨rfl, trivial⟩, trivial, rfl, rfl, rfl⟩ (by kernel_rfl) (by kernel_rfl) ?_
  refine Zd rfl rfl (.tuple #[slv 1 0 ((Zaf x.entry).1.length) ((Zaf x.entry).1.length), Iv ((Zaf x.entry).2)]) rfl (Zt (vs := #[slv 1 0 ((Zaf x.entry).1.length) ((Zaf x.entry).1.length), Iv ((Zaf x.entry).2)]) (v := slv 1 0 ((Zaf x.entry).1.length) ((Zaf x.entry).1.length)) rfl rfl rfl rfl (Zt (vs := #[slv 1 0 ((Zaf x.entry).1.length) ((Zaf x.entry).1.length), Iv ((Zaf x.entry).2)]) (v := Iv ((Zaf x.entry).2)) rfl rfl rfl rfl (Zb rfl rfl (slv 1 0 ((Zaf x.entry).1.length) ((Zaf x.entry).1.length)) rfl (Zb rfl rfl (Iv ((Zaf x.entry).2)) rfl (Za (Zc (Zg (Zg (Zi (Zd rfl rfl (Iv ((Zaf x.entry).2)) rfl ?_))))))))))
  by_cases h1 : ((Zaf x.entry).2) ≠ 0
  refine Zn (vx := Iv ((Zaf x.entry).2)) (vy := Iv 0) rfl rfl (.bool true) rfl rfl (Zeg (by omega)) ?_
  refine Zd rfl rfl (.bool true) rfl (Zf rfl rfl (Zf rfl rfl (Zf rfl rfl (Zf rfl rfl (Zk rfl rfl (.bool true) rfl (Za (Zc (Z0 rfl (Zg (Zi (Zb rfl rfl (.slice none 0 0) rfl (Zb rfl rfl (Iv 60) rfl (Za (Zc ?_))))))))))))))
  refine Zcw (Zcq.nilTmp (i := 2) (b := 2) true 1 rfl (by decide) rfl) ?_
  refine Zv (Z5 (Zu ?_))
  rw [show Z7 x = ([], 60) from if_neg (fun q => by have q1 := q.1; have q2 := q.2.1; first | omega | (have := Zpp q.2.2; omega))]
  exact Za5 [2] (v := .tuple #[slv 2 0 0 0, Iv 60]) rfl (by kernel_rfl) rfl rfl (by decide) (by simp [Zac, Zy]) ⟨⟨rfl, rfl, rfl, by first | omega | exact Nat.le_refl _ | exact Nat.zero_le _ | (dsimp only; omega), by first | omega | exact Nat.le_refl _ | exact Nat.zero_le _ | (dsimp only; omega)⟩, rfl, trivial⟩
  refine Zn (vx := Iv ((Zaf x.entry).2)) (vy := Iv 0) rfl rfl (.bool false) rfl rfl (Zds (by omega)) ?_
  refine Zd rfl rfl (.bool false) rfl ?_
  refine Zj (b := 0) (o := 0) (n := 0) (o' := 0) rfl rfl rfl rfl rfl ?_
  refine Zo (p := pt 0 0) (v := Iv x.epoch) rfl rfl rfl (by kernel_rfl) ?_
  by_cases h2 : 1 ≤ x.epoch
  by_cases h3 : x.epoch ≤ 900000000
  refine Zs ((Zbl (G := G) x.epoch 1 900000000).res (congrArg Value.bool (Zbg (by omega) (by omega)))) (vals := [Iv x.epoch, Iv 1, Iv 900000000]) (res' := .bool true) rfl rfl rfl rfl rfl rfl ?_
  refine Zef (vx := .bool true) rfl rfl (.bool false) rfl Zb1 ?_
  refine Zk rfl rfl (.bool false) rfl (Za (Zc (Zx rfl (Zai (Zc (Zg (Zi ?_)))))))
  refine Zae (b := rfB (.slice none 0 0)) (nid := 2) (H' := [bxB 110 (Zab x), Zy ((Zaf x.entry).1), rfB (.slice none 0 0), hole, hole]) rfl rfl (by kernel_rfl) (by kernel_rfl) ?_
  refine Za (Zc (Zg ?_))
  refine Zcw (Zcq.nilCell (k := 2) (j := 0) (b := 3) true 2 rfl (by decide) rfl (by show 0 < 1; decide) rfl rfl) ?_
  refine Zi ?_
  refine Zj (b := 0) (o := 0) (n := 0) (o' := 0) rfl rfl rfl rfl rfl ?_
  refine Zo (p := pt 0 0) (v := Iv x.epoch) rfl rfl rfl (by kernel_rfl) ?_
  refine Zdg (e := [some (2, 0), some (3, 0)]) (nid := 0) (Zms (G := G) [] 0 1 x.epoch rfl (by omega) (by omega) (by omega)) (vals := [pt 2 0, Iv 1, Iv x.epoch]) (v := .tuple #[]) (H' := [bxB 110 (Zab x), Zy ((Zaf x.entry).1), rfB (slv 3 0 1 1), rwB cFd ([] ++ [(⟨1, (Zp x.epoch).1⟩ : Field)]), hole]) rfl rfl rfl rfl rfl rfl ⟨⟨⟨rfl, rfl⟩, rfl, rfl, trivial⟩, ⟨(Zay rfl rfl rfl rfl), (Zay rfl rfl rfl rfl), trivial⟩, rfl, rfl, rfl, Nat.le_refl _⟩ (by kernel_rfl) rfl (by kernel_rfl) ?_
  refine Za (Zc (Zg (Zi (Zd rfl rfl (slv 1 0 ((Zaf x.entry).1.length) ((Zaf x.entry).1.length)) rfl ?_))))
  refine Zc6 (p := slv 1 0 ((Zaf x.entry).1.length) ((Zaf x.entry).1.length)) (v := .string (Zl ((Zaf x.entry).1))) rfl rfl rfl (Zbi rfl rfl rfl rfl rfl (by omega)) ?_
  refine Zdg (e := [some (2, 0), some (3, 0)]) (nid := 0) (Zkh (G := G) ([] ++ [(⟨1, (Zp x.epoch).1⟩ : Field)]) 1 2 (Zl ((Zaf x.entry).1)) rfl (by omega)) (vals := [pt 2 0, Iv 2, .string (Zl ((Zaf x.entry).1))]) (v := .tuple #[]) (H' := [bxB 110 (Zab x), Zy ((Zaf x.entry).1), rfB (slv 3 0 2 2), rwB cFd (([] ++ [(⟨1, (Zp x.epoch).1⟩ : Field)]) ++ [(⟨2, (Zl ((Zaf x.entry).1))⟩ : Field)]), hole]) rfl rfl rfl rfl rfl rfl ⟨⟨⟨rfl, rfl⟩, rfl, rfl, trivial⟩, ⟨(Zay rfl rfl rfl rfl), (Zay rfl rfl rfl rfl), trivial⟩, rfl, rfl, rfl, Nat.le_refl _⟩ (by kernel_rfl) rfl (by kernel_rfl) ?_
  refine Za (Zc (Zg (Zi ?_)))
  refine Zo (p := pt 2 0) (v := slv 3 0 2 2) rfl rfl rfl rfl ?_
  refine Zad (e := [some (3, 0)]) (nid := 4) (Zg4 (G := G) (([] ++ [(⟨1, (Zp x.epoch).1⟩ : Field)]) ++ [(⟨2, (Zl ((Zaf x.entry).1))⟩ : Field)]) 2 2 rfl (by omega) (by omega)) (vals := [slv 3 0 2 2]) (v := .tuple #[slv 4 0 ((Z6 (([] ++ [(⟨1, (Zp x.epoch).1⟩ : Field)]) ++ [(⟨2, (Zl ((Zaf x.entry).1))⟩ : Field)]) 0 []).1.length) ((Z6 (([] ++ [(⟨1, (Zp x.epoch).1⟩ : Field)]) ++ [(⟨2, (Zl ((Zaf x.entry).1))⟩ : Field)]) 0 []).1.length), Iv ((Z6 (([] ++ [(⟨1, (Zp x.epoch).1⟩ : Field)]) ++ [(⟨2, (Zl ((Zaf x.entry).1))⟩ : Field)]) 0 []).2)]) (H' := [bxB 110 (Zab x), Zy ((Zaf x.entry).1), rfB (slv 3 0 2 2), rwB cFd (([] ++ [(⟨1, (Zp x.epoch).1⟩ : Field)]) ++ [(⟨2, (Zl ((Zaf x.entry).1))⟩ : Field)]), Zy ((Z6 (([] ++ [(⟨1, (Zp x.epoch).1⟩ : Field)]) ++ [(⟨2, (Zl ((Zaf x.entry).1))⟩ : Field)]) 0 []).1)]) rfl rfl rfl rfl rfl rfl rfl ⟨⟨⟨rfl, rfl, rfl, by first | omega | exact Nat.le_refl _, by first | omega | exact Nat.le_refl _⟩, trivial⟩, ⟨(Zia rfl), trivial⟩, rfl, rfl, rfl⟩ (by kernel_rfl) (by kernel_rfl) ?_
  refine Zt (vs := #[slv 4 0 ((Z6 (([] ++ [(⟨1, (Zp x.epoch).1⟩ : Field)]) ++ [(⟨2, (Zl ((Zaf x.entry).1))⟩ : Field)]) 0 []).1.length) ((Z6 (([] ++ [(⟨1, (Zp x.epoch).1⟩ : Field)]) ++ [(⟨2, (Zl ((Zaf x.entry).1))⟩ : Field)]) 0 []).1.length), Iv ((Z6 (([] ++ [(⟨1, (Zp x.epoch).1⟩ : Field)]) ++ [(⟨2, (Zl ((Zaf x.entry).1))⟩ : Field)]) 0 []).2)]) (v := slv 4 0 ((Z6 (([] ++ [(⟨1, (Zp x.epoch).1⟩ : Field)]) ++ [(⟨2, (Zl ((Zaf x.entry).1))⟩ : Field)]) 0 []).1.length) ((Z6 (([] ++ [(⟨1, (Zp x.epoch).1⟩ : Field)]) ++ [(⟨2, (Zl ((Zaf x.entry).1))⟩ : Field)]) 0 []).1.length)) rfl rfl rfl rfl (Zt (vs := #[slv 4 0 ((Z6 (([] ++ [(⟨1, (Zp x.epoch).1⟩ : Field)]) ++ [(⟨2, (Zl ((Zaf x.entry).1))⟩ : Field)]) 0 []).1.length) ((Z6 (([] ++ [(⟨1, (Zp x.epoch).1⟩ : Field)]) ++ [(⟨2, (Zl ((Zaf x.entry).1))⟩ : Field)]) 0 []).1.length), Iv ((Z6 (([] ++ [(⟨1, (Zp x.epoch).1⟩ : Field)]) ++ [(⟨2, (Zl ((Zaf x.entry).1))⟩ : Field)]) 0 []).2)]) (v := Iv ((Z6 (([] ++ [(⟨1, (Zp x.epoch).1⟩ : Field)]) ++ [(⟨2, (Zl ((Zaf x.entry).1))⟩ : Field)]) 0 []).2)) rfl rfl rfl rfl (Zb rfl rfl (slv 4 0 ((Z6 (([] ++ [(⟨1, (Zp x.epoch).1⟩ : Field)]) ++ [(⟨2, (Zl ((Zaf x.entry).1))⟩ : Field)]) 0 []).1.length) ((Z6 (([] ++ [(⟨1, (Zp x.epoch).1⟩ : Field)]) ++ [(⟨2, (Zl ((Zaf x.entry).1))⟩ : Field)]) 0 []).1.length)) rfl (Zb rfl rfl (Iv ((Z6 (([] ++ [(⟨1, (Zp x.epoch).1⟩ : Field)]) ++ [(⟨2, (Zl ((Zaf x.entry).1))⟩ : Field)]) 0 []).2)) rfl (Za (Zc (Zv (Zu ?_)))))))
  have ee : (([] ++ [(⟨1, (Zp x.epoch).1⟩ : Field)]) ++ [(⟨2, (Zl ((Zaf x.entry).1))⟩ : Field)]) = Zgf x := rfl
  have ez := Zoz x
  rw [← ee] at ez
  rw [show Z7 x = ((Z6 (([] ++ [(⟨1, (Zp x.epoch).1⟩ : Field)]) ++ [(⟨2, (Zl ((Zaf x.entry).1))⟩ : Field)]) 0 []).1, (Z6 (([] ++ [(⟨1, (Zp x.epoch).1⟩ : Field)]) ++ [(⟨2, (Zl ((Zaf x.entry).1))⟩ : Field)]) 0 []).2) from by rw [ez, ee]; exact if_pos ⟨by omega, by omega, Zsj (by omega)⟩]
  exact Za5 [4] (v := .tuple #[slv 4 0 ((Z6 (([] ++ [(⟨1, (Zp x.epoch).1⟩ : Field)]) ++ [(⟨2, (Zl ((Zaf x.entry).1))⟩ : Field)]) 0 []).1.length) ((Z6 (([] ++ [(⟨1, (Zp x.epoch).1⟩ : Field)]) ++ [(⟨2, (Zl ((Zaf x.entry).1))⟩ : Field)]) 0 []).1.length), Iv ((Z6 (([] ++ [(⟨1, (Zp x.epoch).1⟩ : Field)]) ++ [(⟨2, (Zl ((Zaf x.entry).1))⟩ : Field)]) 0 []).2)]) rfl (by kernel_rfl) rfl rfl (by decide) (by simp [Zac, Zy]) ⟨⟨rfl, rfl, rfl, by first | omega | exact Nat.le_refl _ | exact Nat.zero_le _ | (dsimp only; omega), by first | omega | exact Nat.le_refl _ | exact Nat.zero_le _ | (dsimp only; omega)⟩, rfl, trivial⟩
  refine Zs ((Zbl (G := G) x.epoch 1 900000000).res (congrArg Value.bool (Zah (by omega)))) (vals := [Iv x.epoch, Iv 1, Iv 900000000]) (res' := .bool false) rfl rfl rfl rfl rfl rfl ?_
  refine Zef (vx := .bool false) rfl rfl (.bool true) rfl Zb1 ?_
  refine Zk rfl rfl (.bool true) rfl (Za (Zc (Z0 rfl (Zg (Zi (Zb rfl rfl (.slice none 0 0) rfl (Zb rfl rfl (Iv 60) rfl (Za (Zc ?_)))))))))
  refine Zcw (Zcq.nilTmp (i := 2) (b := 2) true 1 rfl (by decide) rfl) ?_
  refine Zv (Z5 (Zu ?_))
  rw [show Z7 x = ([], 60) from if_neg (fun q => by have q1 := q.1; have q2 := q.2.1; first | omega | (have := Zpp q.2.2; omega))]
  exact Za5 [2] (v := .tuple #[slv 2 0 0 0, Iv 60]) rfl (by kernel_rfl) rfl rfl (by decide) (by simp [Zac, Zy]) ⟨⟨rfl, rfl, rfl, by first | omega | exact Nat.le_refl _ | exact Nat.zero_le _ | (dsimp only; omega), by first | omega | exact Nat.le_refl _ | exact Nat.zero_le _ | (dsimp only; omega)⟩, rfl, trivial⟩
  refine Zs ((Zbl (G := G) x.epoch 1 900000000).res (congrArg Value.bool (Zah (by omega)))) (vals := [Iv x.epoch, Iv 1, Iv 900000000]) (res' := .bool false) rfl rfl rfl rfl rfl rfl ?_
  refine Zef (vx := .bool false) rfl rfl (.bool true) rfl Zb1 ?_
  refine Zk rfl rfl (.bool true) rfl (Za (Zc (Z0 rfl (Zg (Zi (Zb rfl rfl (.slice none 0 0) rfl (Zb rfl rfl (Iv 60) rfl (Za (Zc ?_)))))))))
  refine Zcw (Zcq.nilTmp (i := 2) (b := 2) true 1 rfl (by decide) rfl) ?_
  refine Zv (Z5 (Zu ?_))
  rw [show Z7 x = ([], 60) from if_neg (fun q => by have q1 := q.1; have q2 := q.2.1; first | omega | (have := Zpp q.2.2; omega))]
  exact Za5 [2] (v := .tuple #[slv 2 0 0 0, Iv 60]) rfl (by kernel_rfl) rfl rfl (by decide) (by simp [Zac, Zy]) ⟨⟨rfl, rfl, rfl, by first | omega | exact Nat.le_refl _ | exact Nat.zero_le _ | (dsimp only; omega), by first | omega | exact Nat.le_refl _ | exact Nat.zero_le _ | (dsimp only; omega)⟩, rfl, trivial⟩
theorem Zvy (kk : Nat → BitVec 32) (hG : G 1 = some (Zbx w32 64 kk)) (s : ByteArray) (hs : s.size ≤ 1000000) : Zao Tryd.prog G 18 [.string s] [] (dgV (lfT kk s)) [] := by
  refine Zbv (fn := Tryd.f18) (nt := 6) rfl rfl rfl rfl ?_
  refine Zat 2 (H' := [hole, hole]) rfl ?_
  refine Zg (Zi ?_)
  refine Zae (b := dgB dz) (nid := 0) (H' := [dgB dz, hole]) rfl rfl (by kernel_rfl) (by kernel_rfl) ?_
  refine Za (Zc (Zg (Zi (Zd rfl rfl (.string s) rfl ?_))))
  refine Zd5 (vs := [(0, .string Zjm), (1, .string s)]) (v := slv 1 0 2 2) (blk := txB [Zjm, s]) (nid := 1) (H' := [dgB dz, txB [Zjm, s]]) rfl rfl rfl (by kernel_rfl) (by kernel_rfl) ?_
  refine Zad (e := [some (1, 0)]) (nid := 0) (Z5s (G := G) kk hG [Zjm, s] 2 (by simp) (by intro x hx; simp at hx; rcases hx with rfl | rfl <;> first | omega | (show 1 ≤ _; omega))) (vals := [slv 1 0 2 2]) (v := dgV (Zjl kk (Zek [Zjm, s]))) (H' := [dgB dz, txB [Zjm, s]]) rfl rfl rfl rfl rfl rfl rfl ⟨⟨⟨rfl, rfl, rfl, by first | omega | exact Nat.le_refl _, by first | omega | exact Nat.le_refl _⟩, trivial⟩, ⟨(Zg9 rfl), trivial⟩, rfl, rfl, rfl⟩ (by kernel_rfl) (by kernel_rfl) ?_
  refine Zr (p := pt 0 0) (v := dgV (Zjl kk (Zek [Zjm, s]))) (b := 0) (blk := dgB (Zjl kk (Zek [Zjm, s]))) (H' := [dgB (Zjl kk (Zek [Zjm, s])), txB [Zjm, s]]) rfl rfl rfl (by kernel_rfl) (by kernel_rfl) ?_
  refine Za (Zc (Zv (Zu ?_)))
  exact Zm (v := dgV (Zjl kk (Zek [Zjm, s]))) (by kernel_rfl) rfl rfl (by kernel_rfl) (Zd1 (Zfn fun _ => rfl) rfl)
theorem Z3i (kk : Nat → BitVec 32) (hG : G 1 = some (Zbx w32 64 kk)) (x : Item) : Zao Tryd.prog G 15 [Za4 x] [] (.tuple #[dgV (Zqy kk x).1, Iv (Zqy kk x).2]) [] := by
 refine Zbv (fn := Tryd.f15) (nt := 18) rfl rfl rfl rfl ?_
 refine Zat 3 (H' := [hole, hole, hole]) rfl ?_
 refine Zg (Zi ?_)
 refine Zel (v := Za4 x) (b := bxB 110 (Zab x)) (nid := 0) (H' := [bxB 110 (Zab x), hole, hole]) rfl rfl rfl (by kernel_rfl) (by kernel_rfl) ?_
 refine Zae (b := dgB dz) (nid := 1) (H' := [bxB 110 (Zab x), dgB dz, hole]) rfl rfl (by kernel_rfl) (by kernel_rfl) ?_
 refine Zb rfl rfl (Iv 0) rfl (Za (Zc (Zg (Zi ?_))))
 refine Zo (p := pt 0 0) (v := Za4 x) rfl rfl rfl (by kernel_rfl) ?_
 refine Zad (e := []) (nid := 2) (Zi8 (G := G) x) (vals := [Za4 x]) (v := .tuple #[slv 2 0 ((Z7 x).1.length) ((Z7 x).1.length), Iv ((Z7 x).2)]) (H' := [bxB 110 (Zab x), dgB dz, Zy ((Z7 x).1)]) rfl rfl rfl rfl rfl rfl rfl ⟨⟨rfl, trivial⟩, trivial, rfl, rfl, rfl⟩ (by kernel_rfl) (by kernel_rfl) ?_
 refine Zd rfl rfl (.tuple #[slv 2 0 ((Z7 x).1.length) ((Z7 x).1.length), Iv ((Z7 x).2)]) rfl (Zt (vs := #[slv 2 0 ((Z7 x).1.length) ((Z7 x).1.length), Iv ((Z7 x).2)]) (v := slv 2 0 ((Z7 x).1.length) ((Z7 x).1.length)) rfl rfl rfl rfl (Zt (vs := #[slv 2 0 ((Z7 x).1.length) ((Z7 x).1.length), Iv ((Z7 x).2)]) (v := Iv ((Z7 x).2)) rfl rfl rfl rfl (Zb rfl rfl (slv 2 0 ((Z7 x).1.length) ((Z7 x).1.length)) rfl (Zb rfl rfl (Iv ((Z7 x).2)) rfl (Za (Zc (Zg (Zg (Zi (Zd rfl rfl (Iv ((Z7 x).2)) rfl ?_))))))))))
 by_cases h1 : ((Z7 x).2) ≠ 0
 refine Zn (vx := Iv ((Z7 x).2)) (vy := Iv 0) rfl rfl (.bool true) rfl rfl (Zeg (by omega)) ?_
 refine Za (Zc (Z0 rfl (Zg (Zi ?_))))
 refine Zaw (vs := []) (v := dgV dz) rfl rfl rfl (by kernel_rfl) ?_
 refine Zd rfl rfl (Iv ((Z7 x).2)) rfl ?_
 refine Zr (p := pt 1 0) (v := dgV dz) (b := 1) (blk := dgB dz) (H' := [bxB 110 (Zab x), dgB dz, Zy ((Z7 x).1)]) rfl rfl rfl (by kernel_rfl) (by kernel_rfl) ?_
 refine Zb rfl rfl (Iv ((Z7 x).2)) rfl (Za (Zc (Zv (Z5 (Zu ?_)))))
 rw [show Zqy kk x = (dz, (Z7 x).2) from by rw [Z4i (by omega)]; exact if_neg (fun q => by have := Zpq q; omega)]
 exact Zm (v := .tuple #[dgV dz, Iv ((Z7 x).2)]) (by kernel_rfl) rfl rfl (by kernel_rfl) ⟨(Zd1 (Zfn fun _ => rfl) rfl), rfl, trivial⟩
 refine Zn (vx := Iv ((Z7 x).2)) (vy := Iv 0) rfl rfl (.bool false) rfl rfl (Zds (by omega)) ?_
 refine Za (Zc (Zx rfl (Zai (Zc (Zg (Zi (Zd rfl rfl (slv 2 0 ((Z7 x).1.length) ((Z7 x).1.length)) rfl ?_)))))))
 refine Zc6 (p := slv 2 0 ((Z7 x).1.length) ((Z7 x).1.length)) (v := .string (Zl ((Z7 x).1))) rfl rfl rfl (Zbi rfl rfl rfl rfl rfl (by omega)) ?_
 refine Zs (Zvy (G := G) kk hG (Zl ((Z7 x).1)) (by rw [Zbc]; have := Zmv x; omega)) (vals := [.string (Zl ((Z7 x).1))]) (res' := dgV (lfT kk (Zl ((Z7 x).1)))) rfl rfl rfl rfl rfl (by kernel_rfl) ?_
 refine Zr (p := pt 1 0) (v := dgV (lfT kk (Zl ((Z7 x).1)))) (b := 1) (blk := dgB (lfT kk (Zl ((Z7 x).1)))) (H' := [bxB 110 (Zab x), dgB (lfT kk (Zl ((Z7 x).1))), Zy ((Z7 x).1)]) rfl rfl rfl (by kernel_rfl) (by kernel_rfl) ?_
 refine Zb rfl rfl (Iv 0) rfl (Za (Zc (Zv (Zu ?_))))
 rw [show Zqy kk x = (lfT kk (Zl (Z7 x).1), 0) from if_pos (Z0j (by omega))]
 exact Zm (v := .tuple #[dgV (lfT kk (Zl ((Z7 x).1))), Iv 0]) (by kernel_rfl) rfl rfl (by kernel_rfl) ⟨(Zd1 (Zfn fun _ => rfl) rfl), rfl, trivial⟩
end Go.Flat
