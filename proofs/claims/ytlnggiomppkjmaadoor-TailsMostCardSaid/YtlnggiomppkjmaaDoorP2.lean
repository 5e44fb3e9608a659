/- Walks. -/
import Derived.Test.YtlnggiomppkjmaaDoorP1
set_option linter.unusedVariables false
set_option linter.unusedSimpArgs false
set_option maxRecDepth 20000
namespace Go.Flat
open Go.Proofs
variable {G : Glob}
def Zi5 : ByteArray := ⟨#[0]⟩
theorem Zqf (s : Signed) : (Zas s).1.length ≤ 1000 := by
 by_cases hm : Zup s
 ·rw [Zxz hm]
  have := Zg9 (Zgf 0 (Zlx s)) 0 []
  have h1 := Za4 s.node
  have h2 := Zt6 s.head
  simp only [Zlx, Zgf, Zmw, Zca, Zju, List.length_nil] at this
  show (Z2 (Zgf 0 (Zlx s)) 0 []).1.length ≤ 1000
  simp only [Zlx, Zgf]
  omega
 ·rw [Zxy hm]; exact Nat.zero_le _
def Zmd (e : Entry) : List Field := if e.kind = 1 then [⟨1, (Zq e.kind).1⟩, ⟨2, (Zq e.client).1⟩, ⟨3, (Zq e.seq).1⟩, ⟨4, e.text⟩] else if e.kind = 2 then [⟨1, (Zq e.kind).1⟩, ⟨5, Zp (Zas e.head).1⟩] else [⟨1, (Zq e.kind).1⟩, ⟨6, Zp (Zb9 e.claim).1⟩]
theorem Zox {e : Entry} (h : Zfk e) : 1 ≤ e.kind ∧ e.kind ≤ 3 := by
 rcases h with q | q | q <;> have := q.1 <;> omega
theorem Zks {e : Entry} (h : Zfk e) (hk : e.kind = 1) : (1 ≤ e.client ∧ e.client ≤ 3) ∧ (1 ≤ e.seq ∧ e.seq ≤ 1000000) ∧ e.text.size ≤ 200 := by
 rcases h with q | q | q
 ·exact ⟨⟨q.2.1, q.2.2.1⟩, ⟨q.2.2.2.1, q.2.2.2.2.1⟩, q.2.2.2.2.2.1⟩
 ·have := q.1; omega
 ·have := q.1; omega
theorem Z4s (a b : Field) (ha : 0 < a.tag) (hab : a.tag < b.tag) (hb : b.tag ≤ 255) (h1 : a.data.size ≤ 65536) (h2 : b.data.size ≤ 65536) : (Z2 [a, b] 0 []).2 = 0 := by
 have ea : Zex a 0 = 0 := by unfold Zex; rw [if_neg (by omega), if_neg (by omega), if_neg (by omega)]
 have eb : Zex b a.tag = 0 := by unfold Zex; rw [if_neg (by omega), if_neg (by omega), if_neg (by omega)]
 rw [Z2, if_pos ea, Z2, if_pos eb, Z2]
theorem Zqy {e : Entry} (h : Zfk e) : (Z2 (Zmd e) 0 []).2 = 0 := by
 have hk := Zox h
 have n1 := Za4 e.kind
 unfold Zmd
 split
 ·rename_i h1
  have hu := Zks h h1
  have n2 := Za4 e.client
  have n3 := Za4 e.seq
  have h := Zmj [(Zq e.kind).1, (Zq e.client).1, (Zq e.seq).1, e.text] 0 [] (by simp) (by
   intro x hx
   simp only [List.mem_cons, List.not_mem_nil, or_false] at hx
   rcases hx with rfl | rfl | rfl | rfl <;> omega)
  show (Z2 (Zgf 0 [(Zq e.kind).1, (Zq e.client).1, (Zq e.seq).1, e.text]) ((0 : Nat) : Int) []).2 = 0
  rw [h]
 ·split
  ·exact Z4s _ _ (by show (0 : Int) < 1; decide) (by show (1 : Int) < 5; decide) (by show (5 : Int) ≤ 255; decide) (by show (Zq e.kind).1.size ≤ 65536; omega) (by show (Zp (Zas e.head).1).size ≤ 65536; rw [Zca]; have := Zqf e.head; omega)
  ·exact Z4s _ _ (by show (0 : Int) < 1; decide) (by show (1 : Int) < 6; decide) (by show (6 : Int) ≤ 255; decide) (by show (Zq e.kind).1.size ≤ 65536; omega) (by show (Zp (Zb9 e.claim).1).size ≤ 65536; rw [Zca]; have := Ztb e.claim; omega)
def Zbj (e : Entry) : Bs × Int := if Zfk e then ((Z2 (Zmd e) 0 []).1, 0) else ([], 60)
theorem Zux {e : Entry} (h : Zfk e) : (Zbj e).2 = 0 := by rw [show Zbj e = _ from if_pos h]
theorem Z4v {e : Entry} (h : (Zbj e).2 = 0) : Zfk e := by
 refine Decidable.byContradiction fun q => ?_
 rw [show Zbj e = ([], 60) from if_neg q] at h; exact absurd h (by decide)
theorem Ztc (e : Entry) : (Zbj e).1.length ≤ 2000 := by
 by_cases h : Zfk e
 ·rw [show Zbj e = _ from if_pos h]
  show (Z2 (Zmd e) 0 []).1.length ≤ 2000
  have h1 := Zg9 (Zmd e) 0 []
  have n1 := Za4 e.kind
  have n2 := Za4 e.client
  have n3 := Za4 e.seq
  have n4 := Zqf e.head
  have n5 := Ztb e.claim
  have h2 : Zmw (Zmd e) ≤ 2000 := by
   unfold Zmd
   split
   ·have := (Zks h (by assumption)).2.2
    simp only [Zmw]; omega
   ·split
    ·simp only [Zmw, Zca]; omega
    ·simp only [Zmw, Zca]; omega
  simp only [List.length_nil] at h1
  omega
 ·rw [show Zbj e = ([], 60) from if_neg h]; exact Nat.zero_le _
def Zoh (x : Item) : List Field := [⟨1, (Zq x.epoch).1⟩, ⟨2, Zp (Zbj x.entry).1⟩]
theorem Zzk (x : Item) : (Z2 (Zoh x) 0 []).2 = 0 := by
 have n1 := Za4 x.epoch
 have n2 := Ztc x.entry
 exact Z4s _ _ (by show (0 : Int) < 1; decide) (by show (1 : Int) < 2; decide) (by show (2 : Int) ≤ 255; decide) (by show (Zq x.epoch).1.size ≤ 65536; omega) (by show (Zp (Zbj x.entry).1).size ≤ 65536; rw [Zca]; omega)
def Zce (x : Item) : Bs × Int := if Zdh x then ((Z2 (Zoh x) 0 []).1, 0) else ([], 60)
theorem Z0k {x : Item} (h : Zdh x) : (Zce x).2 = 0 := by rw [show Zce x = _ from if_pos h]
theorem Z4w {x : Item} (h : (Zce x).2 = 0) : Zdh x := by
 refine Decidable.byContradiction fun q => ?_
 rw [show Zce x = ([], 60) from if_neg q] at h; exact absurd h (by decide)
theorem Z4x {x : Item} (h : (Zce x).2 ≠ 0) : (Zce x).2 = 60 := by
 by_cases q : Zdh x
 ·exact absurd (Z0k q) h
 ·rw [show Zce x = ([], 60) from if_neg q]
theorem Z0l (x : Item) : (Zce x).1.length ≤ 2100 := by
 unfold Zce
 split
 ·have h1 := Zg9 (Zoh x) 0 []
  have n1 := Za4 x.epoch
  have n2 := Ztc x.entry
  simp only [Zoh, Zmw, Zca, List.length_nil] at h1
  show (Z2 (Zoh x) 0 []).1.length ≤ 2100
  simp only [Zoh]; omega
 ·exact Nat.zero_le _
def lfT (kk : Nat → BitVec 32) (s : ByteArray) : D := Zcq kk (Zd0 [Zi5, s])
def Zbn (kk : Nat → BitVec 32) (x : Item) : D × Int := if Zdh x then (lfT kk (Zp (Zce x).1), 0) else (dz, 60)
theorem Z1f (e : Entry) : Z6 Tryd.prog G 82 [Zdy e] [] (.tuple #[slv 0 0 (Zbj e).1.length (Zbj e).1.length, Iv (Zbj e).2]) [Zap (Zbj e).1] := by
  refine Zbh (fn := Tryd.f82) (nt := 57) rfl rfl rfl rfl ?_
  refine Zag 5 (H' := [hole, hole, hole, hole, hole]) rfl ?_
  refine Zf (Zg (Zb4 (v := Zdy e) (b := bxB 109 (Zdg e)) (nid := 0) (H' := [bxB 109 (Zdg e), hole, hole, hole, hole]) (Zb (.slice none 0 0) (Zb (Iv 0) (Za (Zc (Zf (Zf (Zg (Zo (p := pt 0 0) (v := Zdy e) ?_))))))))))
  refine Zs (Zmx (G := G) e) (vals := [Zdy e]) (res' := Iv (Zej e)) rfl rfl rfl rfl rfl rfl ?_
  refine Zb (Iv (Zej e)) (Za (Zc (Zf (Zg (Zd (Iv (Zej e)) ?_)))))
  by_cases h1 : (Zej e) ≠ 0
  refine Zm (vx := Iv (Zej e)) (vy := Iv 0) rfl rfl (.bool true) rfl rfl (Zgd (by omega)) ?_
  refine Za (Zc (Zz rfl (Zf (Zg (Zd (Iv (Zej e)) (Zb (.slice none 0 0) (Zb (Iv (Zej e)) (Za (Zc ?_)))))))))
  refine Zb8 (Zba.nilTmp (i := 2) (b := 1) true 1 rfl (by decide) rfl) ?_
  refine Zr (Z3 (Zu ?_))
  rw [show Zbj e = ([], Zej e) from by rw [show Zej e = 60 from if_neg (Zjb (by omega))]; exact if_neg (Zjb (by omega))]
  exact Zbd [1] (v := .tuple #[slv 1 0 0 0, Iv (Zej e)]) rfl (by kernel_rfl) rfl rfl (by decide) (by simp [Zbf, Zap]) ⟨⟨rfl, rfl, rfl, by first | omega | exact Nat.le_refl _ | exact Nat.zero_le _ | (dsimp only; omega), by first | omega | exact Nat.le_refl _ | exact Nat.zero_le _ | (dsimp only; omega)⟩, rfl, trivial⟩
  refine Zm (vx := Iv (Zej e)) (vy := Iv 0) rfl rfl (.bool false) rfl rfl (Zft (by omega)) ?_
  refine Za (Zc (Zt rfl (Zy (Zc (Zf (Zg (Za9 (b := rfB (.slice none 0 0)) (nid := 1) (H' := [bxB 109 (Zdg e), rfB (.slice none 0 0), hole, hole, hole]) (Za (Zc (Zf ?_))))))))))
  have hr := Zr3 (e := e) (by omega)
  have hk := Zox hr
  refine Zb8 (Zba.nilCell (k := 1) (j := 0) (b := 2) true 2 rfl (by decide) rfl (by show 0 < 1; decide) rfl rfl) ?_
  refine Zg (Zh (b := 0) (o := 0) (n := 0) (o' := 0) (Zo (p := pt 0 0) (v := Iv e.kind) ?_))
  refine Zcl (e := [some (1, 0), some (2, 0)]) (nid := 0) (Zle (G := G) [] 0 1 e.kind rfl (by omega) (by omega) (by omega)) (vals := [pt 1 0, Iv 1, Iv e.kind]) (v := .tuple #[]) (H' := [bxB 109 (Zdg e), rfB (slv 2 0 1 1), rwB cFd ([] ++ [(⟨1, (Zq e.kind).1⟩ : Field)]), hole, hole]) rfl rfl rfl rfl rfl rfl ⟨⟨⟨rfl, rfl⟩, rfl, rfl, trivial⟩, ⟨(Zad rfl rfl rfl rfl), (Zad rfl rfl rfl rfl), trivial⟩, rfl, rfl, rfl, Nat.le_refl _⟩ (by kernel_rfl) rfl (by kernel_rfl) ?_
  refine Za (Zc (Zf (Zf (Zg (Zh (b := 0) (o := 0) (n := 0) (o' := 0) (Zo (p := pt 0 0) (v := Iv e.kind) (Za (Zc (Z8 (Zf (Zg ?_)))))))))))
  by_cases h2 : e.kind = 1
  refine Zm (vx := Iv e.kind) (vy := Iv 1) rfl rfl (.bool true) rfl rfl (Zc3 (by omega)) ?_
  refine Zb (.bool true) (Za (Zc (Zz rfl (Zf ?_))))
  have hu := Zks hr (by omega)
  refine Zg (Zh (b := 0) (o := 0) (n := 1) (o' := 1) (Zo (p := pt 0 1) (v := Iv e.client) ?_))
  refine Zcl (e := [some (1, 0), some (2, 0)]) (nid := 0) (Zle (G := G) ([] ++ [(⟨1, (Zq e.kind).1⟩ : Field)]) 1 2 e.client rfl (by omega) (by omega) (by omega)) (vals := [pt 1 0, Iv 2, Iv e.client]) (v := .tuple #[]) (H' := [bxB 109 (Zdg e), rfB (slv 2 0 2 2), rwB cFd (([] ++ [(⟨1, (Zq e.kind).1⟩ : Field)]) ++ [(⟨2, (Zq e.client).1⟩ : Field)]), hole, hole]) rfl rfl rfl rfl rfl rfl ⟨⟨⟨rfl, rfl⟩, rfl, rfl, trivial⟩, ⟨(Zad rfl rfl rfl rfl), (Zad rfl rfl rfl rfl), trivial⟩, rfl, rfl, rfl, Nat.le_refl _⟩ (by kernel_rfl) rfl (by kernel_rfl) ?_
  refine Za (Zc (Zf (Zg (Zh (b := 0) (o := 0) (n := 2) (o' := 2) (Zo (p := pt 0 2) (v := Iv e.seq) ?_)))))
  refine Zcl (e := [some (1, 0), some (2, 0)]) (nid := 0) (Zle (G := G) (([] ++ [(⟨1, (Zq e.kind).1⟩ : Field)]) ++ [(⟨2, (Zq e.client).1⟩ : Field)]) 2 3 e.seq rfl (by omega) (by omega) (by omega)) (vals := [pt 1 0, Iv 3, Iv e.seq]) (v := .tuple #[]) (H' := [bxB 109 (Zdg e), rfB (slv 2 0 3 3), rwB cFd ((([] ++ [(⟨1, (Zq e.kind).1⟩ : Field)]) ++ [(⟨2, (Zq e.client).1⟩ : Field)]) ++ [(⟨3, (Zq e.seq).1⟩ : Field)]), hole, hole]) rfl rfl rfl rfl rfl rfl ⟨⟨⟨rfl, rfl⟩, rfl, rfl, trivial⟩, ⟨(Zad rfl rfl rfl rfl), (Zad rfl rfl rfl rfl), trivial⟩, rfl, rfl, rfl, Nat.le_refl _⟩ (by kernel_rfl) rfl (by kernel_rfl) ?_
  refine Za (Zc (Zg (Zh (b := 0) (o := 0) (n := 3) (o' := 3) (Zo (p := pt 0 3) (v := .string e.text) ?_))))
  refine Zcl (e := [some (1, 0), some (2, 0)]) (nid := 0) (Zjv (G := G) ((([] ++ [(⟨1, (Zq e.kind).1⟩ : Field)]) ++ [(⟨2, (Zq e.client).1⟩ : Field)]) ++ [(⟨3, (Zq e.seq).1⟩ : Field)]) 3 4 e.text rfl (by omega)) (vals := [pt 1 0, Iv 4, .string e.text]) (v := .tuple #[]) (H' := [bxB 109 (Zdg e), rfB (slv 2 0 4 4), rwB cFd (((([] ++ [(⟨1, (Zq e.kind).1⟩ : Field)]) ++ [(⟨2, (Zq e.client).1⟩ : Field)]) ++ [(⟨3, (Zq e.seq).1⟩ : Field)]) ++ [(⟨4, e.text⟩ : Field)]), hole, hole]) rfl rfl rfl rfl rfl rfl ⟨⟨⟨rfl, rfl⟩, rfl, rfl, trivial⟩, ⟨(Zad rfl rfl rfl rfl), (Zad rfl rfl rfl rfl), trivial⟩, rfl, rfl, rfl, Nat.le_refl _⟩ (by kernel_rfl) rfl (by kernel_rfl) ?_
  refine Za (Z7 (Zc (Zf (Zg ?_))))
  refine Zae (p := pt 1 0) (v := slv 2 0 4 4) rfl rfl rfl rfl ?_
  refine Z5 (e := [some (2, 0)]) (nid := 3) (Zga (G := G) (((([] ++ [(⟨1, (Zq e.kind).1⟩ : Field)]) ++ [(⟨2, (Zq e.client).1⟩ : Field)]) ++ [(⟨3, (Zq e.seq).1⟩ : Field)]) ++ [(⟨4, e.text⟩ : Field)]) 4 4 rfl (by omega) (by omega)) (vals := [slv 2 0 4 4]) (v := .tuple #[slv 3 0 ((Z2 (((([] ++ [(⟨1, (Zq e.kind).1⟩ : Field)]) ++ [(⟨2, (Zq e.client).1⟩ : Field)]) ++ [(⟨3, (Zq e.seq).1⟩ : Field)]) ++ [(⟨4, e.text⟩ : Field)]) 0 []).1.length) ((Z2 (((([] ++ [(⟨1, (Zq e.kind).1⟩ : Field)]) ++ [(⟨2, (Zq e.client).1⟩ : Field)]) ++ [(⟨3, (Zq e.seq).1⟩ : Field)]) ++ [(⟨4, e.text⟩ : Field)]) 0 []).1.length), Iv ((Z2 (((([] ++ [(⟨1, (Zq e.kind).1⟩ : Field)]) ++ [(⟨2, (Zq e.client).1⟩ : Field)]) ++ [(⟨3, (Zq e.seq).1⟩ : Field)]) ++ [(⟨4, e.text⟩ : Field)]) 0 []).2)]) (H' := [bxB 109 (Zdg e), rfB (slv 2 0 4 4), rwB cFd (((([] ++ [(⟨1, (Zq e.kind).1⟩ : Field)]) ++ [(⟨2, (Zq e.client).1⟩ : Field)]) ++ [(⟨3, (Zq e.seq).1⟩ : Field)]) ++ [(⟨4, e.text⟩ : Field)]), Zap ((Z2 (((([] ++ [(⟨1, (Zq e.kind).1⟩ : Field)]) ++ [(⟨2, (Zq e.client).1⟩ : Field)]) ++ [(⟨3, (Zq e.seq).1⟩ : Field)]) ++ [(⟨4, e.text⟩ : Field)]) 0 []).1), hole]) rfl rfl rfl rfl rfl rfl rfl ⟨⟨⟨rfl, rfl, rfl, by first | omega | exact Nat.le_refl _, by first | omega | exact Nat.le_refl _⟩, trivial⟩, ⟨(Zbt rfl), trivial⟩, rfl, rfl, rfl⟩ (by kernel_rfl) (by kernel_rfl) ?_
  refine Z1 (vs := #[slv 3 0 ((Z2 (((([] ++ [(⟨1, (Zq e.kind).1⟩ : Field)]) ++ [(⟨2, (Zq e.client).1⟩ : Field)]) ++ [(⟨3, (Zq e.seq).1⟩ : Field)]) ++ [(⟨4, e.text⟩ : Field)]) 0 []).1.length) ((Z2 (((([] ++ [(⟨1, (Zq e.kind).1⟩ : Field)]) ++ [(⟨2, (Zq e.client).1⟩ : Field)]) ++ [(⟨3, (Zq e.seq).1⟩ : Field)]) ++ [(⟨4, e.text⟩ : Field)]) 0 []).1.length), Iv ((Z2 (((([] ++ [(⟨1, (Zq e.kind).1⟩ : Field)]) ++ [(⟨2, (Zq e.client).1⟩ : Field)]) ++ [(⟨3, (Zq e.seq).1⟩ : Field)]) ++ [(⟨4, e.text⟩ : Field)]) 0 []).2)]) (v := slv 3 0 ((Z2 (((([] ++ [(⟨1, (Zq e.kind).1⟩ : Field)]) ++ [(⟨2, (Zq e.client).1⟩ : Field)]) ++ [(⟨3, (Zq e.seq).1⟩ : Field)]) ++ [(⟨4, e.text⟩ : Field)]) 0 []).1.length) ((Z2 (((([] ++ [(⟨1, (Zq e.kind).1⟩ : Field)]) ++ [(⟨2, (Zq e.client).1⟩ : Field)]) ++ [(⟨3, (Zq e.seq).1⟩ : Field)]) ++ [(⟨4, e.text⟩ : Field)]) 0 []).1.length)) (Z1 (vs := #[slv 3 0 ((Z2 (((([] ++ [(⟨1, (Zq e.kind).1⟩ : Field)]) ++ [(⟨2, (Zq e.client).1⟩ : Field)]) ++ [(⟨3, (Zq e.seq).1⟩ : Field)]) ++ [(⟨4, e.text⟩ : Field)]) 0 []).1.length) ((Z2 (((([] ++ [(⟨1, (Zq e.kind).1⟩ : Field)]) ++ [(⟨2, (Zq e.client).1⟩ : Field)]) ++ [(⟨3, (Zq e.seq).1⟩ : Field)]) ++ [(⟨4, e.text⟩ : Field)]) 0 []).1.length), Iv ((Z2 (((([] ++ [(⟨1, (Zq e.kind).1⟩ : Field)]) ++ [(⟨2, (Zq e.client).1⟩ : Field)]) ++ [(⟨3, (Zq e.seq).1⟩ : Field)]) ++ [(⟨4, e.text⟩ : Field)]) 0 []).2)]) (v := Iv ((Z2 (((([] ++ [(⟨1, (Zq e.kind).1⟩ : Field)]) ++ [(⟨2, (Zq e.client).1⟩ : Field)]) ++ [(⟨3, (Zq e.seq).1⟩ : Field)]) ++ [(⟨4, e.text⟩ : Field)]) 0 []).2)) (Zb (slv 3 0 ((Z2 (((([] ++ [(⟨1, (Zq e.kind).1⟩ : Field)]) ++ [(⟨2, (Zq e.client).1⟩ : Field)]) ++ [(⟨3, (Zq e.seq).1⟩ : Field)]) ++ [(⟨4, e.text⟩ : Field)]) 0 []).1.length) ((Z2 (((([] ++ [(⟨1, (Zq e.kind).1⟩ : Field)]) ++ [(⟨2, (Zq e.client).1⟩ : Field)]) ++ [(⟨3, (Zq e.seq).1⟩ : Field)]) ++ [(⟨4, e.text⟩ : Field)]) 0 []).1.length)) (Zb (Iv ((Z2 (((([] ++ [(⟨1, (Zq e.kind).1⟩ : Field)]) ++ [(⟨2, (Zq e.client).1⟩ : Field)]) ++ [(⟨3, (Zq e.seq).1⟩ : Field)]) ++ [(⟨4, e.text⟩ : Field)]) 0 []).2)) (Za (Zc (Zr (Zu ?_)))))))
  have ee : (((([] ++ [(⟨1, (Zq e.kind).1⟩ : Field)]) ++ [(⟨2, (Zq e.client).1⟩ : Field)]) ++ [(⟨3, (Zq e.seq).1⟩ : Field)]) ++ [(⟨4, e.text⟩ : Field)]) = Zmd e := by unfold Zmd; first | (rw [if_pos (by omega)]; done) | (rw [if_pos (by omega)]; rfl) | (rw [if_neg (by omega), if_pos (by omega)]; rfl) | (rw [if_neg (by omega), if_neg (by omega)]; rfl)
  have ez := Zqy hr
  rw [← ee] at ez
  rw [show Zbj e = ((Z2 (((([] ++ [(⟨1, (Zq e.kind).1⟩ : Field)]) ++ [(⟨2, (Zq e.client).1⟩ : Field)]) ++ [(⟨3, (Zq e.seq).1⟩ : Field)]) ++ [(⟨4, e.text⟩ : Field)]) 0 []).1, (Z2 (((([] ++ [(⟨1, (Zq e.kind).1⟩ : Field)]) ++ [(⟨2, (Zq e.client).1⟩ : Field)]) ++ [(⟨3, (Zq e.seq).1⟩ : Field)]) ++ [(⟨4, e.text⟩ : Field)]) 0 []).2) from by rw [ez, ee]; exact if_pos hr]
  exact Zbd [3] (v := .tuple #[slv 3 0 ((Z2 (((([] ++ [(⟨1, (Zq e.kind).1⟩ : Field)]) ++ [(⟨2, (Zq e.client).1⟩ : Field)]) ++ [(⟨3, (Zq e.seq).1⟩ : Field)]) ++ [(⟨4, e.text⟩ : Field)]) 0 []).1.length) ((Z2 (((([] ++ [(⟨1, (Zq e.kind).1⟩ : Field)]) ++ [(⟨2, (Zq e.client).1⟩ : Field)]) ++ [(⟨3, (Zq e.seq).1⟩ : Field)]) ++ [(⟨4, e.text⟩ : Field)]) 0 []).1.length), Iv ((Z2 (((([] ++ [(⟨1, (Zq e.kind).1⟩ : Field)]) ++ [(⟨2, (Zq e.client).1⟩ : Field)]) ++ [(⟨3, (Zq e.seq).1⟩ : Field)]) ++ [(⟨4, e.text⟩ : Field)]) 0 []).2)]) rfl (by kernel_rfl) rfl rfl (by decide) (by simp [Zbf, Zap]) ⟨⟨rfl, rfl, rfl, by first | omega | exact Nat.le_refl _ | exact Nat.zero_le _ | (dsimp only; omega), by first | omega | exact Nat.le_refl _ | exact Nat.zero_le _ | (dsimp only; omega)⟩, rfl, trivial⟩
  refine Zm (vx := Iv e.kind) (vy := Iv 1) rfl rfl (.bool false) rfl rfl (Zdo (by omega)) ?_
  refine Zb (.bool false) (Za (Zc (Zt rfl (Zf (Zg ?_)))))
  by_cases h3 : e.kind = 2
  refine Zm (vx := Iv e.kind) (vy := Iv 2) rfl rfl (.bool true) rfl rfl (Zc3 (by omega)) ?_
  refine Zb (.bool true) (Za (Zc (Zz rfl (Zf (Zg (Zh (b := 0) (o := 0) (n := 4) (o' := 4) (Zo (p := pt 0 4) (v := Zf7 e.head) ?_)))))))
  refine Z5 (e := []) (nid := 3) (Zqq (G := G) e.head) (vals := [Zf7 e.head]) (v := .tuple #[slv 3 0 ((Zas e.head).1.length) ((Zas e.head).1.length), Iv ((Zas e.head).2)]) (H' := [bxB 109 (Zdg e), rfB (slv 2 0 1 1), rwB cFd ([] ++ [(⟨1, (Zq e.kind).1⟩ : Field)]), Zap ((Zas e.head).1), hole]) rfl rfl rfl rfl rfl rfl rfl ⟨⟨rfl, trivial⟩, trivial, rfl, rfl, rfl⟩ (by kernel_rfl) (by kernel_rfl) ?_
  refine Zd (.tuple #[slv 3 0 ((Zas e.head).1.length) ((Zas e.head).1.length), Iv ((Zas e.head).2)]) (Z1 (vs := #[slv 3 0 ((Zas e.head).1.length) ((Zas e.head).1.length), Iv ((Zas e.head).2)]) (v := slv 3 0 ((Zas e.head).1.length) ((Zas e.head).1.length)) (Z1 (vs := #[slv 3 0 ((Zas e.head).1.length) ((Zas e.head).1.length), Iv ((Zas e.head).2)]) (v := Iv ((Zas e.head).2)) (Zb (slv 3 0 ((Zas e.head).1.length) ((Zas e.head).1.length)) (Zb (Iv ((Zas e.head).2)) (Za (Zc (Zg (Zd (slv 3 0 ((Zas e.head).1.length) ((Zas e.head).1.length)) ?_))))))))
  refine Zjm (p := slv 3 0 ((Zas e.head).1.length) ((Zas e.head).1.length)) (v := .string (Zp ((Zas e.head).1))) rfl rfl rfl (Zig rfl rfl rfl rfl rfl (by omega)) ?_
  refine Zcl (e := [some (1, 0), some (2, 0)]) (nid := 0) (Zjv (G := G) ([] ++ [(⟨1, (Zq e.kind).1⟩ : Field)]) 1 5 (Zp ((Zas e.head).1)) rfl (by omega)) (vals := [pt 1 0, Iv 5, .string (Zp ((Zas e.head).1))]) (v := .tuple #[]) (H' := [bxB 109 (Zdg e), rfB (slv 2 0 2 2), rwB cFd (([] ++ [(⟨1, (Zq e.kind).1⟩ : Field)]) ++ [(⟨5, (Zp ((Zas e.head).1))⟩ : Field)]), Zap ((Zas e.head).1), hole]) rfl rfl rfl rfl rfl rfl ⟨⟨⟨rfl, rfl⟩, rfl, rfl, trivial⟩, ⟨(Zad rfl rfl rfl rfl), (Zad rfl rfl rfl rfl), trivial⟩, rfl, rfl, rfl, Nat.le_refl _⟩ (by kernel_rfl) rfl (by kernel_rfl) ?_
  refine Za (Z7 (Zc (Zf (Zg ?_))))
  refine Zae (p := pt 1 0) (v := slv 2 0 2 2) rfl rfl rfl rfl ?_
  refine Z5 (e := [some (2, 0)]) (nid := 4) (Zga (G := G) (([] ++ [(⟨1, (Zq e.kind).1⟩ : Field)]) ++ [(⟨5, (Zp ((Zas e.head).1))⟩ : Field)]) 2 2 rfl (by omega) (by omega)) (vals := [slv 2 0 2 2]) (v := .tuple #[slv 4 0 ((Z2 (([] ++ [(⟨1, (Zq e.kind).1⟩ : Field)]) ++ [(⟨5, (Zp ((Zas e.head).1))⟩ : Field)]) 0 []).1.length) ((Z2 (([] ++ [(⟨1, (Zq e.kind).1⟩ : Field)]) ++ [(⟨5, (Zp ((Zas e.head).1))⟩ : Field)]) 0 []).1.length), Iv ((Z2 (([] ++ [(⟨1, (Zq e.kind).1⟩ : Field)]) ++ [(⟨5, (Zp ((Zas e.head).1))⟩ : Field)]) 0 []).2)]) (H' := [bxB 109 (Zdg e), rfB (slv 2 0 2 2), rwB cFd (([] ++ [(⟨1, (Zq e.kind).1⟩ : Field)]) ++ [(⟨5, (Zp ((Zas e.head).1))⟩ : Field)]), Zap ((Zas e.head).1), Zap ((Z2 (([] ++ [(⟨1, (Zq e.kind).1⟩ : Field)]) ++ [(⟨5, (Zp ((Zas e.head).1))⟩ : Field)]) 0 []).1)]) rfl rfl rfl rfl rfl rfl rfl ⟨⟨⟨rfl, rfl, rfl, by first | omega | exact Nat.le_refl _, by first | omega | exact Nat.le_refl _⟩, trivial⟩, ⟨(Zbt rfl), trivial⟩, rfl, rfl, rfl⟩ (by kernel_rfl) (by kernel_rfl) ?_
  refine Z1 (vs := #[slv 4 0 ((Z2 (([] ++ [(⟨1, (Zq e.kind).1⟩ : Field)]) ++ [(⟨5, (Zp ((Zas e.head).1))⟩ : Field)]) 0 []).1.length) ((Z2 (([] ++ [(⟨1, (Zq e.kind).1⟩ : Field)]) ++ [(⟨5, (Zp ((Zas e.head).1))⟩ : Field)]) 0 []).1.length), Iv ((Z2 (([] ++ [(⟨1, (Zq e.kind).1⟩ : Field)]) ++ [(⟨5, (Zp ((Zas e.head).1))⟩ : Field)]) 0 []).2)]) (v := slv 4 0 ((Z2 (([] ++ [(⟨1, (Zq e.kind).1⟩ : Field)]) ++ [(⟨5, (Zp ((Zas e.head).1))⟩ : Field)]) 0 []).1.length) ((Z2 (([] ++ [(⟨1, (Zq e.kind).1⟩ : Field)]) ++ [(⟨5, (Zp ((Zas e.head).1))⟩ : Field)]) 0 []).1.length)) (Z1 (vs := #[slv 4 0 ((Z2 (([] ++ [(⟨1, (Zq e.kind).1⟩ : Field)]) ++ [(⟨5, (Zp ((Zas e.head).1))⟩ : Field)]) 0 []).1.length) ((Z2 (([] ++ [(⟨1, (Zq e.kind).1⟩ : Field)]) ++ [(⟨5, (Zp ((Zas e.head).1))⟩ : Field)]) 0 []).1.length), Iv ((Z2 (([] ++ [(⟨1, (Zq e.kind).1⟩ : Field)]) ++ [(⟨5, (Zp ((Zas e.head).1))⟩ : Field)]) 0 []).2)]) (v := Iv ((Z2 (([] ++ [(⟨1, (Zq e.kind).1⟩ : Field)]) ++ [(⟨5, (Zp ((Zas e.head).1))⟩ : Field)]) 0 []).2)) (Zb (slv 4 0 ((Z2 (([] ++ [(⟨1, (Zq e.kind).1⟩ : Field)]) ++ [(⟨5, (Zp ((Zas e.head).1))⟩ : Field)]) 0 []).1.length) ((Z2 (([] ++ [(⟨1, (Zq e.kind).1⟩ : Field)]) ++ [(⟨5, (Zp ((Zas e.head).1))⟩ : Field)]) 0 []).1.length)) (Zb (Iv ((Z2 (([] ++ [(⟨1, (Zq e.kind).1⟩ : Field)]) ++ [(⟨5, (Zp ((Zas e.head).1))⟩ : Field)]) 0 []).2)) (Za (Zc (Zr (Zu ?_)))))))
  have ee : (([] ++ [(⟨1, (Zq e.kind).1⟩ : Field)]) ++ [(⟨5, (Zp ((Zas e.head).1))⟩ : Field)]) = Zmd e := by unfold Zmd; first | (rw [if_pos (by omega)]; done) | (rw [if_pos (by omega)]; rfl) | (rw [if_neg (by omega), if_pos (by omega)]; rfl) | (rw [if_neg (by omega), if_neg (by omega)]; rfl)
  have ez := Zqy hr
  rw [← ee] at ez
  rw [show Zbj e = ((Z2 (([] ++ [(⟨1, (Zq e.kind).1⟩ : Field)]) ++ [(⟨5, (Zp ((Zas e.head).1))⟩ : Field)]) 0 []).1, (Z2 (([] ++ [(⟨1, (Zq e.kind).1⟩ : Field)]) ++ [(⟨5, (Zp ((Zas e.head).1))⟩ : Field)]) 0 []).2) from by rw [ez, ee]; exact if_pos hr]
  exact Zbd [4] (v := .tuple #[slv 4 0 ((Z2 (([] ++ [(⟨1, (Zq e.kind).1⟩ : Field)]) ++ [(⟨5, (Zp ((Zas e.head).1))⟩ : Field)]) 0 []).1.length) ((Z2 (([] ++ [(⟨1, (Zq e.kind).1⟩ : Field)]) ++ [(⟨5, (Zp ((Zas e.head).1))⟩ : Field)]) 0 []).1.length), Iv ((Z2 (([] ++ [(⟨1, (Zq e.kind).1⟩ : Field)]) ++ [(⟨5, (Zp ((Zas e.head).1))⟩ : Field)]) 0 []).2)]) rfl (by kernel_rfl) rfl rfl (by decide) (by simp [Zbf, Zap]) ⟨⟨rfl, rfl, rfl, by first | omega | exact Nat.le_refl _ | exact Nat.zero_le _ | (dsimp only; omega), by first | omega | exact Nat.le_refl _ | exact Nat.zero_le _ | (dsimp only; omega)⟩, rfl, trivial⟩
  refine Zm (vx := Iv e.kind) (vy := Iv 2) rfl rfl (.bool false) rfl rfl (Zdo (by omega)) ?_
  refine Zb (.bool false) (Za (Zc (Zt rfl (Zf (Zg ?_)))))
  refine Zm (vx := Iv e.kind) (vy := Iv 3) rfl rfl (.bool true) rfl rfl (Zc3 (by omega)) ?_
  refine Zb (.bool true) (Za (Zc (Zz rfl (Zf (Zg (Zh (b := 0) (o := 0) (n := 73) (o' := 73) (Zo (p := pt 0 73) (v := Zai e.claim) ?_)))))))
  refine Z5 (e := []) (nid := 3) (Zrr (G := G) e.claim) (vals := [Zai e.claim]) (v := .tuple #[slv 3 0 ((Zb9 e.claim).1.length) ((Zb9 e.claim).1.length), Iv ((Zb9 e.claim).2)]) (H' := [bxB 109 (Zdg e), rfB (slv 2 0 1 1), rwB cFd ([] ++ [(⟨1, (Zq e.kind).1⟩ : Field)]), Zap ((Zb9 e.claim).1), hole]) rfl rfl rfl rfl rfl rfl rfl ⟨⟨rfl, trivial⟩, trivial, rfl, rfl, rfl⟩ (by kernel_rfl) (by kernel_rfl) ?_
  refine Zd (.tuple #[slv 3 0 ((Zb9 e.claim).1.length) ((Zb9 e.claim).1.length), Iv ((Zb9 e.claim).2)]) (Z1 (vs := #[slv 3 0 ((Zb9 e.claim).1.length) ((Zb9 e.claim).1.length), Iv ((Zb9 e.claim).2)]) (v := slv 3 0 ((Zb9 e.claim).1.length) ((Zb9 e.claim).1.length)) (Z1 (vs := #[slv 3 0 ((Zb9 e.claim).1.length) ((Zb9 e.claim).1.length), Iv ((Zb9 e.claim).2)]) (v := Iv ((Zb9 e.claim).2)) (Zb (slv 3 0 ((Zb9 e.claim).1.length) ((Zb9 e.claim).1.length)) (Zb (Iv ((Zb9 e.claim).2)) (Za (Zc (Zg (Zd (slv 3 0 ((Zb9 e.claim).1.length) ((Zb9 e.claim).1.length)) ?_))))))))
  refine Zjm (p := slv 3 0 ((Zb9 e.claim).1.length) ((Zb9 e.claim).1.length)) (v := .string (Zp ((Zb9 e.claim).1))) rfl rfl rfl (Zig rfl rfl rfl rfl rfl (by omega)) ?_
  refine Zcl (e := [some (1, 0), some (2, 0)]) (nid := 0) (Zjv (G := G) ([] ++ [(⟨1, (Zq e.kind).1⟩ : Field)]) 1 6 (Zp ((Zb9 e.claim).1)) rfl (by omega)) (vals := [pt 1 0, Iv 6, .string (Zp ((Zb9 e.claim).1))]) (v := .tuple #[]) (H' := [bxB 109 (Zdg e), rfB (slv 2 0 2 2), rwB cFd (([] ++ [(⟨1, (Zq e.kind).1⟩ : Field)]) ++ [(⟨6, (Zp ((Zb9 e.claim).1))⟩ : Field)]), Zap ((Zb9 e.claim).1), hole]) rfl rfl rfl rfl rfl rfl ⟨⟨⟨rfl, rfl⟩, rfl, rfl, trivial⟩, ⟨(Zad rfl rfl rfl rfl), (Zad rfl rfl rfl rfl), trivial⟩, rfl, rfl, rfl, Nat.le_refl _⟩ (by kernel_rfl) rfl (by kernel_rfl) ?_
  refine Za (Z7 (Zc (Zf (Zg ?_))))
  refine Zae (p := pt 1 0) (v := slv 2 0 2 2) rfl rfl rfl rfl ?_
  refine Z5 (e := [some (2, 0)]) (nid := 4) (Zga (G := G) (([] ++ [(⟨1, (Zq e.kind).1⟩ : Field)]) ++ [(⟨6, (Zp ((Zb9 e.claim).1))⟩ : Field)]) 2 2 rfl (by omega) (by omega)) (vals := [slv 2 0 2 2]) (v := .tuple #[slv 4 0 ((Z2 (([] ++ [(⟨1, (Zq e.kind).1⟩ : Field)]) ++ [(⟨6, (Zp ((Zb9 e.claim).1))⟩ : Field)]) 0 []).1.length) ((Z2 (([] ++ [(⟨1, (Zq e.kind).1⟩ : Field)]) ++ [(⟨6, (Zp ((Zb9 e.claim).1))⟩ : Field)]) 0 []).1.length), Iv ((Z2 (([] ++ [(⟨1, (Zq e.kind).1⟩ : Field)]) ++ [(⟨6, (Zp ((Zb9 e.claim).1))⟩ : Field)]) 0 []).2)]) (H' := [bxB 109 (Zdg e), rfB (slv 2 0 2 2), rwB cFd (([] ++ [(⟨1, (Zq e.kind).1⟩ : Field)]) ++ [(⟨6, (Zp ((Zb9 e.claim).1))⟩ : Field)]), Zap ((Zb9 e.claim).1), Zap ((Z2 (([] ++ [(⟨1, (Zq e.kind).1⟩ : Field)]) ++ [(⟨6, (Zp ((Zb9 e.claim).1))⟩ : Field)]) 0 []).1)]) rfl rfl rfl rfl rfl rfl rfl ⟨⟨⟨rfl, rfl, rfl, by first | omega | exact Nat.le_refl _, by first | omega | exact Nat.le_refl _⟩, trivial⟩, ⟨(Zbt rfl), trivial⟩, rfl, rfl, rfl⟩ (by kernel_rfl) (by kernel_rfl) ?_
  refine Z1 (vs := #[slv 4 0 ((Z2 (([] ++ [(⟨1, (Zq e.kind).1⟩ : Field)]) ++ [(⟨6, (Zp ((Zb9 e.claim).1))⟩ : Field)]) 0 []).1.length) ((Z2 (([] ++ [(⟨1, (Zq e.kind).1⟩ : Field)]) ++ [(⟨6, (Zp ((Zb9 e.claim).1))⟩ : Field)]) 0 []).1.length), Iv ((Z2 (([] ++ [(⟨1, (Zq e.kind).1⟩ : Field)]) ++ [(⟨6, (Zp ((Zb9 e.claim).1))⟩ : Field)]) 0 []).2)]) (v := slv 4 0 ((Z2 (([] ++ [(⟨1, (Zq e.kind).1⟩ : Field)]) ++ [(⟨6, (Zp ((Zb9 e.claim).1))⟩ : Field)]) 0 []).1.length) ((Z2 (([] ++ [(⟨1, (Zq e.kind).1⟩ : Field)]) ++ [(⟨6, (Zp ((Zb9 e.claim).1))⟩ : Field)]) 0 []).1.length)) (Z1 (vs := #[slv 4 0 ((Z2 (([] ++ [(⟨1, (Zq e.kind).1⟩ : Field)]) ++ [(⟨6, (Zp ((Zb9 e.claim).1))⟩ : Field)]) 0 []).1.length) ((Z2 (([] ++ [(⟨1, (Zq e.kind).1⟩ : Field)]) ++ [(⟨6, (Zp ((Zb9 e.claim).1))⟩ : Field)]) 0 []).1.length), Iv ((Z2 (([] ++ [(⟨1, (Zq e.kind).1⟩ : Field)]) ++ [(⟨6, (Zp ((Zb9 e.claim).1))⟩ : Field)]) 0 []).2)]) (v := Iv ((Z2 (([] ++ [(⟨1, (Zq e.kind).1⟩ : Field)]) ++ [(⟨6, (Zp ((Zb9 e.claim).1))⟩ : Field)]) 0 []).2)) (Zb (slv 4 0 ((Z2 (([] ++ [(⟨1, (Zq e.kind).1⟩ : Field)]) ++ [(⟨6, (Zp ((Zb9 e.claim).1))⟩ : Field)]) 0 []).1.length) ((Z2 (([] ++ [(⟨1, (Zq e.kind).1⟩ : Field)]) ++ [(⟨6, (Zp ((Zb9 e.claim).1))⟩ : Field)]) 0 []).1.length)) (Zb (Iv ((Z2 (([] ++ [(⟨1, (Zq e.kind).1⟩ : Field)]) ++ [(⟨6, (Zp ((Zb9 e.claim).1))⟩ : Field)]) 0 []).2)) (Za (Zc (Zr (Zu ?_)))))))
  have ee : (([] ++ [(⟨1, (Zq e.kind).1⟩ : Field)]) ++ [(⟨6, (Zp ((Zb9 e.claim).1))⟩ : Field)]) = Zmd e := by unfold Zmd; first | (rw [if_pos (by omega)]; done) | (rw [if_pos (by omega)]; rfl) | (rw [if_neg (by omega), if_pos (by omega)]; rfl) | (rw [if_neg (by omega), if_neg (by omega)]; rfl)
  have ez := Zqy hr
  rw [← ee] at ez
  rw [show Zbj e = ((Z2 (([] ++ [(⟨1, (Zq e.kind).1⟩ : Field)]) ++ [(⟨6, (Zp ((Zb9 e.claim).1))⟩ : Field)]) 0 []).1, (Z2 (([] ++ [(⟨1, (Zq e.kind).1⟩ : Field)]) ++ [(⟨6, (Zp ((Zb9 e.claim).1))⟩ : Field)]) 0 []).2) from by rw [ez, ee]; exact if_pos hr]
  exact Zbd [4] (v := .tuple #[slv 4 0 ((Z2 (([] ++ [(⟨1, (Zq e.kind).1⟩ : Field)]) ++ [(⟨6, (Zp ((Zb9 e.claim).1))⟩ : Field)]) 0 []).1.length) ((Z2 (([] ++ [(⟨1, (Zq e.kind).1⟩ : Field)]) ++ [(⟨6, (Zp ((Zb9 e.claim).1))⟩ : Field)]) 0 []).1.length), Iv ((Z2 (([] ++ [(⟨1, (Zq e.kind).1⟩ : Field)]) ++ [(⟨6, (Zp ((Zb9 e.claim).1))⟩ : Field)]) 0 []).2)]) rfl (by kernel_rfl) rfl rfl (by decide) (by simp [Zbf, Zap]) ⟨⟨rfl, rfl, rfl, by first | omega | exact Nat.le_refl _ | exact Nat.zero_le _ | (dsimp only; omega), by first | omega | exact Nat.le_refl _ | exact Nat.zero_le _ | (dsimp only; omega)⟩, rfl, trivial⟩
theorem Zt2 (x : Item) : Z6 Tryd.prog G 79 [Zcy x] [] (.tuple #[slv 0 0 (Zce x).1.length (Zce x).1.length, Iv (Zce x).2]) [Zap (Zce x).1] := by
  refine Zbh (fn := Tryd.f79) (nt := 31) rfl rfl rfl rfl ?_
  refine Zag 5 (H' := [hole, hole, hole, hole, hole]) rfl ?_
  refine Zf (Zg (Zb4 (v := Zcy x) (b := bxB 110 (Zb7 x)) (nid := 0) (H' := [bxB 110 (Zb7 x), hole, hole, hole, hole]) (Zb (.slice none 0 0) (Zb (Iv 0) (Za (Zc (Zf (Zg (Zh (b := 0) (o := 0) (n := 1) (o' := 1) (Zo (p := pt 0 1) (v := Zdy x.entry) ?_))))))))))
  refine Z5 (e := []) (nid := 1) (Z1f (G := G) x.entry) (vals := [Zdy x.entry]) (v := .tuple #[slv 1 0 ((Zbj x.entry).1.length) ((Zbj x.entry).1.length), Iv ((Zbj x.entry).2)]) (H' := [bxB 110 (Zb7 x), Zap ((Zbj x.entry).1), hole, hole, hole]) rfl rfl rfl rfl rfl rfl rfl ⟨⟨rfl, trivial⟩, trivial, rfl, rfl, rfl⟩ (by kernel_rfl) (by kernel_rfl) ?_
  refine Zd (.tuple #[slv 1 0 ((Zbj x.entry).1.length) ((Zbj x.entry).1.length), Iv ((Zbj x.entry).2)]) (Z1 (vs := #[slv 1 0 ((Zbj x.entry).1.length) ((Zbj x.entry).1.length), Iv ((Zbj x.entry).2)]) (v := slv 1 0 ((Zbj x.entry).1.length) ((Zbj x.entry).1.length)) (Z1 (vs := #[slv 1 0 ((Zbj x.entry).1.length) ((Zbj x.entry).1.length), Iv ((Zbj x.entry).2)]) (v := Iv ((Zbj x.entry).2)) (Zb (slv 1 0 ((Zbj x.entry).1.length) ((Zbj x.entry).1.length)) (Zb (Iv ((Zbj x.entry).2)) (Za (Zc (Zf (Zf (Zg (Zd (Iv ((Zbj x.entry).2)) ?_))))))))))
  by_cases h1 : ((Zbj x.entry).2) ≠ 0
  refine Zm (vx := Iv ((Zbj x.entry).2)) (vy := Iv 0) rfl rfl (.bool true) rfl rfl (Zgd (by omega)) ?_
  refine Zd (.bool true) (Ze (Ze (Ze (Ze (Zl (.bool true) (Za (Zc (Zz rfl (Zf (Zg (Zb (.slice none 0 0) (Zb (Iv 60) (Za (Zc ?_))))))))))))))
  refine Zb8 (Zba.nilTmp (i := 2) (b := 2) true 1 rfl (by decide) rfl) ?_
  refine Zr (Z3 (Zu ?_))
  rw [show Zce x = ([], 60) from if_neg (fun q => by have q1 := q.1; have q2 := q.2.1; first | omega | (have := Zux q.2.2; omega))]
  exact Zbd [2] (v := .tuple #[slv 2 0 0 0, Iv 60]) rfl (by kernel_rfl) rfl rfl (by decide) (by simp [Zbf, Zap]) ⟨⟨rfl, rfl, rfl, by first | omega | exact Nat.le_refl _ | exact Nat.zero_le _ | (dsimp only; omega), by first | omega | exact Nat.le_refl _ | exact Nat.zero_le _ | (dsimp only; omega)⟩, rfl, trivial⟩
  refine Zm (vx := Iv ((Zbj x.entry).2)) (vy := Iv 0) rfl rfl (.bool false) rfl rfl (Zft (by omega)) ?_
  refine Zd (.bool false) (Zh (b := 0) (o := 0) (n := 0) (o' := 0) (Zo (p := pt 0 0) (v := Iv x.epoch) ?_))
  by_cases h2 : 1 ≤ x.epoch
  by_cases h3 : x.epoch ≤ 900000000
  refine Zs ((Zau (G := G) x.epoch 1 900000000).res (congrArg Value.bool (Zbo (by omega) (by omega)))) (vals := [Iv x.epoch, Iv 1, Iv 900000000]) (res' := .bool true) rfl rfl rfl rfl rfl rfl ?_
  refine Zgj (vx := .bool true) rfl rfl (.bool false) rfl Zdd ?_
  refine Zl (.bool false) (Za (Zc (Zt rfl (Zy (Zc (Zf (Zg (Za9 (b := rfB (.slice none 0 0)) (nid := 2) (H' := [bxB 110 (Zb7 x), Zap ((Zbj x.entry).1), rfB (.slice none 0 0), hole, hole]) (Za (Zc (Zf ?_)))))))))))
  refine Zb8 (Zba.nilCell (k := 2) (j := 0) (b := 3) true 2 rfl (by decide) rfl (by show 0 < 1; decide) rfl rfl) ?_
  refine Zg (Zh (b := 0) (o := 0) (n := 0) (o' := 0) (Zo (p := pt 0 0) (v := Iv x.epoch) ?_))
  refine Zcl (e := [some (2, 0), some (3, 0)]) (nid := 0) (Zle (G := G) [] 0 1 x.epoch rfl (by omega) (by omega) (by omega)) (vals := [pt 2 0, Iv 1, Iv x.epoch]) (v := .tuple #[]) (H' := [bxB 110 (Zb7 x), Zap ((Zbj x.entry).1), rfB (slv 3 0 1 1), rwB cFd ([] ++ [(⟨1, (Zq x.epoch).1⟩ : Field)]), hole]) rfl rfl rfl rfl rfl rfl ⟨⟨⟨rfl, rfl⟩, rfl, rfl, trivial⟩, ⟨(Zad rfl rfl rfl rfl), (Zad rfl rfl rfl rfl), trivial⟩, rfl, rfl, rfl, Nat.le_refl _⟩ (by kernel_rfl) rfl (by kernel_rfl) ?_
  refine Za (Zc (Zf (Zg (Zd (slv 1 0 ((Zbj x.entry).1.length) ((Zbj x.entry).1.length)) ?_))))
  refine Zjm (p := slv 1 0 ((Zbj x.entry).1.length) ((Zbj x.entry).1.length)) (v := .string (Zp ((Zbj x.entry).1))) rfl rfl rfl (Zig rfl rfl rfl rfl rfl (by omega)) ?_
  refine Zcl (e := [some (2, 0), some (3, 0)]) (nid := 0) (Zjv (G := G) ([] ++ [(⟨1, (Zq x.epoch).1⟩ : Field)]) 1 2 (Zp ((Zbj x.entry).1)) rfl (by omega)) (vals := [pt 2 0, Iv 2, .string (Zp ((Zbj x.entry).1))]) (v := .tuple #[]) (H' := [bxB 110 (Zb7 x), Zap ((Zbj x.entry).1), rfB (slv 3 0 2 2), rwB cFd (([] ++ [(⟨1, (Zq x.epoch).1⟩ : Field)]) ++ [(⟨2, (Zp ((Zbj x.entry).1))⟩ : Field)]), hole]) rfl rfl rfl rfl rfl rfl ⟨⟨⟨rfl, rfl⟩, rfl, rfl, trivial⟩, ⟨(Zad rfl rfl rfl rfl), (Zad rfl rfl rfl rfl), trivial⟩, rfl, rfl, rfl, Nat.le_refl _⟩ (by kernel_rfl) rfl (by kernel_rfl) ?_
  refine Za (Zc (Zf (Zg ?_)))
  refine Zae (p := pt 2 0) (v := slv 3 0 2 2) rfl rfl rfl rfl ?_
  refine Z5 (e := [some (3, 0)]) (nid := 4) (Zga (G := G) (([] ++ [(⟨1, (Zq x.epoch).1⟩ : Field)]) ++ [(⟨2, (Zp ((Zbj x.entry).1))⟩ : Field)]) 2 2 rfl (by omega) (by omega)) (vals := [slv 3 0 2 2]) (v := .tuple #[slv 4 0 ((Z2 (([] ++ [(⟨1, (Zq x.epoch).1⟩ : Field)]) ++ [(⟨2, (Zp ((Zbj x.entry).1))⟩ : Field)]) 0 []).1.length) ((Z2 (([] ++ [(⟨1, (Zq x.epoch).1⟩ : Field)]) ++ [(⟨2, (Zp ((Zbj x.entry).1))⟩ : Field)]) 0 []).1.length), Iv ((Z2 (([] ++ [(⟨1, (Zq x.epoch).1⟩ : Field)]) ++ [(⟨2, (Zp ((Zbj x.entry).1))⟩ : Field)]) 0 []).2)]) (H' := [bxB 110 (Zb7 x), Zap ((Zbj x.entry).1), rfB (slv 3 0 2 2), rwB cFd (([] ++ [(⟨1, (Zq x.epoch).1⟩ : Field)]) ++ [(⟨2, (Zp ((Zbj x.entry).1))⟩ : Field)]), Zap ((Z2 (([] ++ [(⟨1, (Zq x.epoch).1⟩ : Field)]) ++ [(⟨2, (Zp ((Zbj x.entry).1))⟩ : Field)]) 0 []).1)]) rfl rfl rfl rfl rfl rfl rfl ⟨⟨⟨rfl, rfl, rfl, by first | omega | exact Nat.le_refl _, by first | omega | exact Nat.le_refl _⟩, trivial⟩, ⟨(Zbt rfl), trivial⟩, rfl, rfl, rfl⟩ (by kernel_rfl) (by kernel_rfl) ?_
  refine Z1 (vs := #[slv 4 0 ((Z2 (([] ++ [(⟨1, (Zq x.epoch).1⟩ : Field)]) ++ [(⟨2, (Zp ((Zbj x.entry).1))⟩ : Field)]) 0 []).1.length) ((Z2 (([] ++ [(⟨1, (Zq x.epoch).1⟩ : Field)]) ++ [(⟨2, (Zp ((Zbj x.entry).1))⟩ : Field)]) 0 []).1.length), Iv ((Z2 (([] ++ [(⟨1, (Zq x.epoch).1⟩ : Field)]) ++ [(⟨2, (Zp ((Zbj x.entry).1))⟩ : Field)]) 0 []).2)]) (v := slv 4 0 ((Z2 (([] ++ [(⟨1, (Zq x.epoch).1⟩ : Field)]) ++ [(⟨2, (Zp ((Zbj x.entry).1))⟩ : Field)]) 0 []).1.length) ((Z2 (([] ++ [(⟨1, (Zq x.epoch).1⟩ : Field)]) ++ [(⟨2, (Zp ((Zbj x.entry).1))⟩ : Field)]) 0 []).1.length)) (Z1 (vs := #[slv 4 0 ((Z2 (([] ++ [(⟨1, (Zq x.epoch).1⟩ : Field)]) ++ [(⟨2, (Zp ((Zbj x.entry).1))⟩ : Field)]) 0 []).1.length) ((Z2 (([] ++ [(⟨1, (Zq x.epoch).1⟩ : Field)]) ++ [(⟨2, (Zp ((Zbj x.entry).1))⟩ : Field)]) 0 []).1.length), Iv ((Z2 (([] ++ [(⟨1, (Zq x.epoch).1⟩ : Field)]) ++ [(⟨2, (Zp ((Zbj x.entry).1))⟩ : Field)]) 0 []).2)]) (v := Iv ((Z2 (([] ++ [(⟨1, (Zq x.epoch).1⟩ : Field)]) ++ [(⟨2, (Zp ((Zbj x.entry).1))⟩ : Field)]) 0 []).2)) (Zb (slv 4 0 ((Z2 (([] ++ [(⟨1, (Zq x.epoch).1⟩ : Field)]) ++ [(⟨2, (Zp ((Zbj x.entry).1))⟩ : Field)]) 0 []).1.length) ((Z2 (([] ++ [(⟨1, (Zq x.epoch).1⟩ : Field)]) ++ [(⟨2, (Zp ((Zbj x.entry).1))⟩ : Field)]) 0 []).1.length)) (Zb (Iv ((Z2 (([] ++ [(⟨1, (Zq x.epoch).1⟩ : Field)]) ++ [(⟨2, (Zp ((Zbj x.entry).1))⟩ : Field)]) 0 []).2)) (Za (Zc (Zr (Zu ?_)))))))
  have ee : (([] ++ [(⟨1, (Zq x.epoch).1⟩ : Field)]) ++ [(⟨2, (Zp ((Zbj x.entry).1))⟩ : Field)]) = Zoh x := rfl
  have ez := Zzk x
  rw [← ee] at ez
  rw [show Zce x = ((Z2 (([] ++ [(⟨1, (Zq x.epoch).1⟩ : Field)]) ++ [(⟨2, (Zp ((Zbj x.entry).1))⟩ : Field)]) 0 []).1, (Z2 (([] ++ [(⟨1, (Zq x.epoch).1⟩ : Field)]) ++ [(⟨2, (Zp ((Zbj x.entry).1))⟩ : Field)]) 0 []).2) from by rw [ez, ee]; exact if_pos ⟨by omega, by omega, Z4v (by omega)⟩]
  exact Zbd [4] (v := .tuple #[slv 4 0 ((Z2 (([] ++ [(⟨1, (Zq x.epoch).1⟩ : Field)]) ++ [(⟨2, (Zp ((Zbj x.entry).1))⟩ : Field)]) 0 []).1.length) ((Z2 (([] ++ [(⟨1, (Zq x.epoch).1⟩ : Field)]) ++ [(⟨2, (Zp ((Zbj x.entry).1))⟩ : Field)]) 0 []).1.length), Iv ((Z2 (([] ++ [(⟨1, (Zq x.epoch).1⟩ : Field)]) ++ [(⟨2, (Zp ((Zbj x.entry).1))⟩ : Field)]) 0 []).2)]) rfl (by kernel_rfl) rfl rfl (by decide) (by simp [Zbf, Zap]) ⟨⟨rfl, rfl, rfl, by first | omega | exact Nat.le_refl _ | exact Nat.zero_le _ | (dsimp only; omega), by first | omega | exact Nat.le_refl _ | exact Nat.zero_le _ | (dsimp only; omega)⟩, rfl, trivial⟩
  refine Zs ((Zau (G := G) x.epoch 1 900000000).res (congrArg Value.bool (Zac (by omega)))) (vals := [Iv x.epoch, Iv 1, Iv 900000000]) (res' := .bool false) rfl rfl rfl rfl rfl rfl ?_
  refine Zgj (vx := .bool false) rfl rfl (.bool true) rfl Zdd ?_
  refine Zl (.bool true) (Za (Zc (Zz rfl (Zf (Zg (Zb (.slice none 0 0) (Zb (Iv 60) (Za (Zc ?_)))))))))
  refine Zb8 (Zba.nilTmp (i := 2) (b := 2) true 1 rfl (by decide) rfl) ?_
  refine Zr (Z3 (Zu ?_))
  rw [show Zce x = ([], 60) from if_neg (fun q => by have q1 := q.1; have q2 := q.2.1; first | omega | (have := Zux q.2.2; omega))]
  exact Zbd [2] (v := .tuple #[slv 2 0 0 0, Iv 60]) rfl (by kernel_rfl) rfl rfl (by decide) (by simp [Zbf, Zap]) ⟨⟨rfl, rfl, rfl, by first | omega | exact Nat.le_refl _ | exact Nat.zero_le _ | (dsimp only; omega), by first | omega | exact Nat.le_refl _ | exact Nat.zero_le _ | (dsimp only; omega)⟩, rfl, trivial⟩
  refine Zs ((Zau (G := G) x.epoch 1 900000000).res (congrArg Value.bool (Zac (by omega)))) (vals := [Iv x.epoch, Iv 1, Iv 900000000]) (res' := .bool false) rfl rfl rfl rfl rfl rfl ?_
  refine Zgj (vx := .bool false) rfl rfl (.bool true) rfl Zdd ?_
  refine Zl (.bool true) (Za (Zc (Zz rfl (Zf (Zg (Zb (.slice none 0 0) (Zb (Iv 60) (Za (Zc ?_)))))))))
  refine Zb8 (Zba.nilTmp (i := 2) (b := 2) true 1 rfl (by decide) rfl) ?_
  refine Zr (Z3 (Zu ?_))
  rw [show Zce x = ([], 60) from if_neg (fun q => by have q1 := q.1; have q2 := q.2.1; first | omega | (have := Zux q.2.2; omega))]
  exact Zbd [2] (v := .tuple #[slv 2 0 0 0, Iv 60]) rfl (by kernel_rfl) rfl rfl (by decide) (by simp [Zbf, Zap]) ⟨⟨rfl, rfl, rfl, by first | omega | exact Nat.le_refl _ | exact Nat.zero_le _ | (dsimp only; omega), by first | omega | exact Nat.le_refl _ | exact Nat.zero_le _ | (dsimp only; omega)⟩, rfl, trivial⟩
theorem Zu3 (kk : Nat → BitVec 32) (hG : G 0 = some (Zah w32 64 kk)) (s : ByteArray) (hs : s.size ≤ 1000000) : Z6 Tryd.prog G 80 [.string s] [] (dgV (lfT kk s)) [] := by
  refine Zbh (fn := Tryd.f80) (nt := 6) rfl rfl rfl rfl ?_
  refine Zag 2 (H' := [hole, hole]) rfl ?_
  refine Zf (Zg (Za9 (b := dgB dz) (nid := 0) (H' := [dgB dz, hole]) (Za (Zc (Zf (Zg (Zd (.string s) ?_)))))))
  refine Zen (vs := [(0, .string Zi5), (1, .string s)]) (v := slv 1 0 2 2) (blk := txB [Zi5, s]) (nid := 1) (H' := [dgB dz, txB [Zi5, s]]) rfl rfl rfl (by kernel_rfl) (by kernel_rfl) ?_
  refine Z5 (e := [some (1, 0)]) (nid := 0) (Zyi (G := G) kk hG [Zi5, s] 2 (by simp) (by intro x hx; simp at hx; rcases hx with rfl | rfl <;> first | omega | (show 1 ≤ _; omega))) (vals := [slv 1 0 2 2]) (v := dgV (Zcq kk (Zd0 [Zi5, s]))) (H' := [dgB dz, txB [Zi5, s]]) rfl rfl rfl rfl rfl rfl rfl ⟨⟨⟨rfl, rfl, rfl, by first | omega | exact Nat.le_refl _, by first | omega | exact Nat.le_refl _⟩, trivial⟩, ⟨(Z4f rfl), trivial⟩, rfl, rfl, rfl⟩ (by kernel_rfl) (by kernel_rfl) ?_
  refine Zab (p := pt 0 0) (v := dgV (Zcq kk (Zd0 [Zi5, s]))) (b := 0) (blk := dgB (Zcq kk (Zd0 [Zi5, s]))) (H' := [dgB (Zcq kk (Zd0 [Zi5, s])), txB [Zi5, s]]) (Za (Zc (Zr (Zu ?_))))
  exact Zn (v := dgV (Zcq kk (Zd0 [Zi5, s]))) (by kernel_rfl) rfl rfl (by kernel_rfl) (Ze7 (Zey fun _ => rfl) rfl)
theorem Z1h (kk : Nat → BitVec 32) (hG : G 0 = some (Zah w32 64 kk)) (x : Item) : Z6 Tryd.prog G 73 [Zcy x] [] (.tuple #[dgV (Zbn kk x).1, Iv (Zbn kk x).2]) [] := by
 refine Zbh (fn := Tryd.f73) (nt := 18) rfl rfl rfl rfl ?_
 refine Zag 3 (H' := [hole, hole, hole]) rfl ?_
 refine Zf (Zg (Zb4 (v := Zcy x) (b := bxB 110 (Zb7 x)) (nid := 0) (H' := [bxB 110 (Zb7 x), hole, hole]) (Za9 (b := dgB dz) (nid := 1) (H' := [bxB 110 (Zb7 x), dgB dz, hole]) (Zb (Iv 0) (Za (Zc (Zf (Zg (Zo (p := pt 0 0) (v := Zcy x) ?_)))))))))
 refine Z5 (e := []) (nid := 2) (Zt2 (G := G) x) (vals := [Zcy x]) (v := .tuple #[slv 2 0 ((Zce x).1.length) ((Zce x).1.length), Iv ((Zce x).2)]) (H' := [bxB 110 (Zb7 x), dgB dz, Zap ((Zce x).1)]) rfl rfl rfl rfl rfl rfl rfl ⟨⟨rfl, trivial⟩, trivial, rfl, rfl, rfl⟩ (by kernel_rfl) (by kernel_rfl) ?_
 refine Zd (.tuple #[slv 2 0 ((Zce x).1.length) ((Zce x).1.length), Iv ((Zce x).2)]) (Z1 (vs := #[slv 2 0 ((Zce x).1.length) ((Zce x).1.length), Iv ((Zce x).2)]) (v := slv 2 0 ((Zce x).1.length) ((Zce x).1.length)) (Z1 (vs := #[slv 2 0 ((Zce x).1.length) ((Zce x).1.length), Iv ((Zce x).2)]) (v := Iv ((Zce x).2)) (Zb (slv 2 0 ((Zce x).1.length) ((Zce x).1.length)) (Zb (Iv ((Zce x).2)) (Za (Zc (Zf (Zf (Zg (Zd (Iv ((Zce x).2)) ?_))))))))))
 by_cases h1 : ((Zce x).2) ≠ 0
 refine Zm (vx := Iv ((Zce x).2)) (vy := Iv 0) rfl rfl (.bool true) rfl rfl (Zgd (by omega)) ?_
 refine Za (Zc (Zz rfl (Zf (Zg ?_))))
 refine Zc5 (vs := []) (v := dgV dz) rfl rfl rfl (by kernel_rfl) ?_
 refine Zd (Iv ((Zce x).2)) (Zab (p := pt 1 0) (v := dgV dz) (b := 1) (blk := dgB dz) (H' := [bxB 110 (Zb7 x), dgB dz, Zap ((Zce x).1)]) (Zb (Iv ((Zce x).2)) (Za (Zc (Zr (Z3 (Zu ?_)))))))
 rw [show Zbn kk x = (dz, (Zce x).2) from by rw [Z4x (by omega)]; exact if_neg (fun q => by have := Z0k q; omega)]
 exact Zn (v := .tuple #[dgV dz, Iv ((Zce x).2)]) (by kernel_rfl) rfl rfl (by kernel_rfl) ⟨(Ze7 (Zey fun _ => rfl) rfl), rfl, trivial⟩
 refine Zm (vx := Iv ((Zce x).2)) (vy := Iv 0) rfl rfl (.bool false) rfl rfl (Zft (by omega)) ?_
 refine Za (Zc (Zt rfl (Zy (Zc (Zf (Zg (Zd (slv 2 0 ((Zce x).1.length) ((Zce x).1.length)) ?_)))))))
 refine Zjm (p := slv 2 0 ((Zce x).1.length) ((Zce x).1.length)) (v := .string (Zp ((Zce x).1))) rfl rfl rfl (Zig rfl rfl rfl rfl rfl (by omega)) ?_
 refine Zs (Zu3 (G := G) kk hG (Zp ((Zce x).1)) (by rw [Zca]; have := Z0l x; omega)) (vals := [.string (Zp ((Zce x).1))]) (res' := dgV (lfT kk (Zp ((Zce x).1)))) rfl rfl rfl rfl rfl (by kernel_rfl) ?_
 refine Zab (p := pt 1 0) (v := dgV (lfT kk (Zp ((Zce x).1)))) (b := 1) (blk := dgB (lfT kk (Zp ((Zce x).1)))) (H' := [bxB 110 (Zb7 x), dgB (lfT kk (Zp ((Zce x).1))), Zap ((Zce x).1)]) (Zb (Iv 0) (Za (Zc (Zr (Zu ?_)))))
 rw [show Zbn kk x = (lfT kk (Zp (Zce x).1), 0) from if_pos (Z4w (by omega))]
 exact Zn (v := .tuple #[dgV (lfT kk (Zp ((Zce x).1))), Iv 0]) (by kernel_rfl) rfl rfl (by kernel_rfl) ⟨(Ze7 (Zey fun _ => rfl) rfl), rfl, trivial⟩
end Go.Flat
