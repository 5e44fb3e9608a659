/- Walks. -/
import Derived.Test.YtfjkagjbanhdlaaDoorP1
set_option linter.unusedVariables false
set_option linter.unusedSimpArgs false
set_option maxRecDepth 20000
namespace Go.Flat
open Go.Proofs
variable {G : Glob}
def Zjj : ByteArray := ⟨#[0]⟩
theorem Zrl (s : Signed) : (Zak s).1.length ≤ 1000 := by
 by_cases hm : Zj3 s
 ·rw [Zrj hm]
  have := Zg4 (Zgd 0 (Zmr s)) 0 []
  have h1 := Zbc s.node
  have h2 := Zwl s.head
  simp only [Zmr, Zgd, Znp, Zay, Zev, List.length_nil] at this
  show (Z8 (Zgd 0 (Zmr s)) 0 []).1.length ≤ 1000
  simp only [Zmr, Zgd]
  omega
 ·rw [Zrg hm]; exact Nat.zero_le _
def Znh (e : Entry) : List Field := if e.kind = 1 then [⟨1, (Zr e.kind).1⟩, ⟨2, (Zr e.client).1⟩, ⟨3, (Zr e.seq).1⟩, ⟨4, e.text⟩] else if e.kind = 2 then [⟨1, (Zr e.kind).1⟩, ⟨5, Zn (Zak e.head).1⟩] else [⟨1, (Zr e.kind).1⟩, ⟨6, Zn (Zcf e.claim).1⟩]
theorem Zp7 {e : Entry} (h : Zfq e) : 1 ≤ e.kind ∧ e.kind ≤ 3 := by
 rcases h with q | q | q <;> have := q.1 <;> omega
theorem Zk6 {e : Entry} (h : Zfq e) (hk : e.kind = 1) : (1 ≤ e.client ∧ e.client ≤ 3) ∧ (1 ≤ e.seq ∧ e.seq ≤ 1000000) ∧ e.text.size ≤ 200 := by
 rcases h with q | q | q
 ·exact ⟨⟨q.2.1, q.2.2.1⟩, ⟨q.2.2.2.1, q.2.2.2.2.1⟩, q.2.2.2.2.2.1⟩
 ·have := q.1; omega
 ·have := q.1; omega
theorem Z4f (a b : Field) (ha : 0 < a.tag) (hab : a.tag < b.tag) (hb : b.tag ≤ 255) (h1 : a.data.size ≤ 65536) (h2 : b.data.size ≤ 65536) : (Z8 [a, b] 0 []).2 = 0 := by
 have ea : Ze9 a 0 = 0 := by unfold Ze9; rw [if_neg (by omega), if_neg (by omega), if_neg (by omega)]
 have eb : Ze9 b a.tag = 0 := by unfold Ze9; rw [if_neg (by omega), if_neg (by omega), if_neg (by omega)]
 rw [Z8, if_pos ea, Z8, if_pos eb, Z8]
theorem Zr7 {e : Entry} (h : Zfq e) : (Z8 (Znh e) 0 []).2 = 0 := by
 have hk := Zp7 h
 have n1 := Zbc e.kind
 unfold Znh
 split
 ·rename_i h1
  have hu := Zk6 h h1
  have n2 := Zbc e.client
  have n3 := Zbc e.seq
  have h := Znl [(Zr e.kind).1, (Zr e.client).1, (Zr e.seq).1, e.text] 0 [] (by simp) (by
   intro x hx
   simp only [List.mem_cons, List.not_mem_nil, or_false] at hx
   rcases hx with rfl | rfl | rfl | rfl <;> omega)
  show (Z8 (Zgd 0 [(Zr e.kind).1, (Zr e.client).1, (Zr e.seq).1, e.text]) ((0 : Nat) : Int) []).2 = 0
  rw [h]
 ·split
  ·exact Z4f _ _ (by show (0 : Int) < 1; decide) (by show (1 : Int) < 5; decide) (by show (5 : Int) ≤ 255; decide) (by show (Zr e.kind).1.size ≤ 65536; omega) (by show (Zn (Zak e.head).1).size ≤ 65536; rw [Zay]; have := Zrl e.head; omega)
  ·exact Z4f _ _ (by show (0 : Int) < 1; decide) (by show (1 : Int) < 6; decide) (by show (6 : Int) ≤ 255; decide) (by show (Zr e.kind).1.size ≤ 65536; omega) (by show (Zn (Zcf e.claim).1).size ≤ 65536; rw [Zay]; have := Zs5 e.claim; omega)
def Zbu (e : Entry) : Bs × Int := if Zfq e then ((Z8 (Znh e) 0 []).1, 0) else ([], 60)
theorem Zvg {e : Entry} (h : Zfq e) : (Zbu e).2 = 0 := by rw [show Zbu e = _ from if_pos h]
theorem Z49 {e : Entry} (h : (Zbu e).2 = 0) : Zfq e := by
 refine Decidable.byContradiction fun q => ?_
 rw [show Zbu e = ([], 60) from if_neg q] at h; exact absurd h (by decide)
theorem Zs8 (e : Entry) : (Zbu e).1.length ≤ 2000 := by
 by_cases h : Zfq e
 ·rw [show Zbu e = _ from if_pos h]
  show (Z8 (Znh e) 0 []).1.length ≤ 2000
  have h1 := Zg4 (Znh e) 0 []
  have n1 := Zbc e.kind
  have n2 := Zbc e.client
  have n3 := Zbc e.seq
  have n4 := Zrl e.head
  have n5 := Zs5 e.claim
  have h2 : Znp (Znh e) ≤ 2000 := by
   unfold Znh
   split
   ·have := (Zk6 h (by assumption)).2.2
    simp only [Znp]; omega
   ·split
    ·simp only [Znp, Zay]; omega
    ·simp only [Znp, Zay]; omega
  simp only [List.length_nil] at h1
  omega
 ·rw [show Zbu e = ([], 60) from if_neg h]; exact Nat.zero_le _
def Zpu (x : Item) : List Field := [⟨1, (Zr x.epoch).1⟩, ⟨2, Zn (Zbu x.entry).1⟩]
theorem Zz1 (x : Item) : (Z8 (Zpu x) 0 []).2 = 0 := by
 have n1 := Zbc x.epoch
 have n2 := Zs8 x.entry
 exact Z4f _ _ (by show (0 : Int) < 1; decide) (by show (1 : Int) < 2; decide) (by show (2 : Int) ≤ 255; decide) (by show (Zr x.epoch).1.size ≤ 65536; omega) (by show (Zn (Zbu x.entry).1).size ≤ 65536; rw [Zay]; omega)
def Zci (x : Item) : Bs × Int := if Zdy x then ((Z8 (Zpu x) 0 []).1, 0) else ([], 60)
theorem Z08 {x : Item} (h : Zdy x) : (Zci x).2 = 0 := by rw [show Zci x = _ from if_pos h]
theorem Z46 {x : Item} (h : (Zci x).2 = 0) : Zdy x := by
 refine Decidable.byContradiction fun q => ?_
 rw [show Zci x = ([], 60) from if_neg q] at h; exact absurd h (by decide)
theorem Z4q {x : Item} (h : (Zci x).2 ≠ 0) : (Zci x).2 = 60 := by
 by_cases q : Zdy x
 ·exact absurd (Z08 q) h
 ·rw [show Zci x = ([], 60) from if_neg q]
theorem Z06 (x : Item) : (Zci x).1.length ≤ 2100 := by
 unfold Zci
 split
 ·have h1 := Zg4 (Zpu x) 0 []
  have n1 := Zbc x.epoch
  have n2 := Zs8 x.entry
  simp only [Zpu, Znp, Zay, List.length_nil] at h1
  show (Z8 (Zpu x) 0 []).1.length ≤ 2100
  simp only [Zpu]; omega
 ·exact Nat.zero_le _
def lfT (kk : Nat → BitVec 32) (s : ByteArray) : D := Zbi kk (Zbg [Zjj, s])
def Z1 (kk : Nat → BitVec 32) (x : Item) : D × Int := if Zdy x then (lfT kk (Zn (Zci x).1), 0) else (dz, 60)
theorem Z3j (e : Entry) : Zae Tryd.prog G 50 [Zc7 e] [] (.tuple #[slv 0 0 (Zbu e).1.length (Zbu e).1.length, Iv (Zbu e).2]) [Zaq (Zbu e).1] := by
  refine Zbj (fn := Tryd.f50) (nt := 57) rfl rfl rfl rfl ?_
  refine Zaj 5 (H' := [hole, hole, hole, hole, hole]) rfl ?_
  refine Zf (Zg ?_)
  refine Zbr (v := Zc7 e) (b := bxB 109 (Zc2 e)) (nid := 0) (H' := [bxB 109 (Zc2 e), hole, hole, hole, hole]) rfl rfl rfl (by kernel_rfl) (by kernel_rfl) ?_
  refine Zc rfl rfl (.slice none 0 0) rfl (Zc rfl rfl (Iv 0) rfl (Za (Zb (Zf (Zf (Zg ?_))))))
  refine Zl (p := pt 0 0) (v := Zc7 e) rfl rfl rfl (by kernel_rfl) ?_
  refine Zq (Znw (G := G) e) (vals := [Zc7 e]) (res' := Iv (Ze1 e)) rfl rfl rfl rfl rfl rfl ?_
  refine Zc rfl rfl (Iv (Ze1 e)) rfl (Za (Zb (Zf (Zg (Ze rfl rfl (Iv (Ze1 e)) rfl ?_)))))
  by_cases h1 : (Ze1 e) ≠ 0
  refine Zk (vx := Iv (Ze1 e)) (vy := Iv 0) rfl rfl (.bool true) rfl rfl (Zdg (by omega)) ?_
  refine Za (Zb (Zz rfl (Zf (Zg (Ze rfl rfl (Iv (Ze1 e)) rfl (Zc rfl rfl (.slice none 0 0) rfl (Zc rfl rfl (Iv (Ze1 e)) rfl (Za (Zb ?_)))))))))
  refine Zb4 (Zbz.nilTmp (i := 2) (b := 1) true 1 rfl (by decide) rfl) ?_
  refine Zt (Z3 (Zu ?_))
  rw [show Zbu e = ([], Ze1 e) from by rw [show Ze1 e = 60 from if_neg (Zjv (by omega))]; exact if_neg (Zjv (by omega))]
  exact Za7 [1] (v := .tuple #[slv 1 0 0 0, Iv (Ze1 e)]) rfl (by kernel_rfl) rfl rfl (by decide) (by simp [Za9, Zaq]) ⟨⟨rfl, rfl, rfl, by first | omega | exact Nat.le_refl _ | exact Nat.zero_le _ | (dsimp only; omega), by first | omega | exact Nat.le_refl _ | exact Nat.zero_le _ | (dsimp only; omega)⟩, rfl, trivial⟩
  refine Zk (vx := Iv (Ze1 e)) (vy := Iv 0) rfl rfl (.bool false) rfl rfl (Zc5 (by omega)) ?_
  refine Za (Zb (Zv rfl (Z2 (Zb (Zf (Zg ?_))))))
  refine Z7 (b := rfB (.slice none 0 0)) (nid := 1) (H' := [bxB 109 (Zc2 e), rfB (.slice none 0 0), hole, hole, hole]) rfl rfl (by kernel_rfl) (by kernel_rfl) ?_
  refine Za (Zb (Zf ?_))
  have hr := Zut (e := e) (by omega)
  have hk := Zp7 hr
  refine Zb4 (Zbz.nilCell (k := 1) (j := 0) (b := 2) true 2 rfl (by decide) rfl (by show 0 < 1; decide) rfl rfl) ?_
  refine Zg ?_
  refine Zi (b := 0) (o := 0) (n := 0) (o' := 0) rfl rfl rfl rfl rfl ?_
  refine Zl (p := pt 0 0) (v := Iv e.kind) rfl rfl rfl (by kernel_rfl) ?_
  refine Zct (e := [some (1, 0), some (2, 0)]) (nid := 0) (Zlt (G := G) [] 0 1 e.kind rfl (by omega) (by omega) (by omega)) (vals := [pt 1 0, Iv 1, Iv e.kind]) (v := .tuple #[]) (H' := [bxB 109 (Zc2 e), rfB (slv 2 0 1 1), rwB cFd ([] ++ [(⟨1, (Zr e.kind).1⟩ : Field)]), hole, hole]) rfl rfl rfl rfl rfl rfl ⟨⟨⟨rfl, rfl⟩, rfl, rfl, trivial⟩, ⟨(Zau rfl rfl rfl rfl), (Zau rfl rfl rfl rfl), trivial⟩, rfl, rfl, rfl, Nat.le_refl _⟩ (by kernel_rfl) rfl (by kernel_rfl) ?_
  refine Za (Zb (Zf (Zf (Zg ?_))))
  refine Zi (b := 0) (o := 0) (n := 0) (o' := 0) rfl rfl rfl rfl rfl ?_
  refine Zl (p := pt 0 0) (v := Iv e.kind) rfl rfl rfl (by kernel_rfl) ?_
  refine Za (Zb (Z9 (Zf (Zg ?_))))
  by_cases h2 : e.kind = 1
  refine Zk (vx := Iv e.kind) (vy := Iv 1) rfl rfl (.bool true) rfl rfl (Zdl (by omega)) ?_
  refine Zc rfl rfl (.bool true) rfl (Za (Zb (Zz rfl (Zf ?_))))
  have hu := Zk6 hr (by omega)
  refine Zg ?_
  refine Zi (b := 0) (o := 0) (n := 1) (o' := 1) rfl rfl rfl rfl rfl ?_
  refine Zl (p := pt 0 1) (v := Iv e.client) rfl rfl rfl (by kernel_rfl) ?_
  refine Zct (e := [some (1, 0), some (2, 0)]) (nid := 0) (Zlt (G := G) ([] ++ [(⟨1, (Zr e.kind).1⟩ : Field)]) 1 2 e.client rfl (by omega) (by omega) (by omega)) (vals := [pt 1 0, Iv 2, Iv e.client]) (v := .tuple #[]) (H' := [bxB 109 (Zc2 e), rfB (slv 2 0 2 2), rwB cFd (([] ++ [(⟨1, (Zr e.kind).1⟩ : Field)]) ++ [(⟨2, (Zr e.client).1⟩ : Field)]), hole, hole]) rfl rfl rfl rfl rfl rfl ⟨⟨⟨rfl, rfl⟩, rfl, rfl, trivial⟩, ⟨(Zau rfl rfl rfl rfl), (Zau rfl rfl rfl rfl), trivial⟩, rfl, rfl, rfl, Nat.le_refl _⟩ (by kernel_rfl) rfl (by kernel_rfl) ?_
  refine Za (Zb (Zf (Zg ?_)))
  refine Zi (b := 0) (o := 0) (n := 2) (o' := 2) rfl rfl rfl rfl rfl ?_
  refine Zl (p := pt 0 2) (v := Iv e.seq) rfl rfl rfl (by kernel_rfl) ?_
  refine Zct (e := [some (1, 0), some (2, 0)]) (nid := 0) (Zlt (G := G) (([] ++ [(⟨1, (Zr e.kind).1⟩ : Field)]) ++ [(⟨2, (Zr e.client).1⟩ : Field)]) 2 3 e.seq rfl (by omega) (by omega) (by omega)) (vals := [pt 1 0, Iv 3, Iv e.seq]) (v := .tuple #[]) (H' := [bxB 109 (Zc2 e), rfB (slv 2 0 3 3), rwB cFd ((([] ++ [(⟨1, (Zr e.kind).1⟩ : Field)]) ++ [(⟨2, (Zr e.client).1⟩ : Field)]) ++ [(⟨3, (Zr e.seq).1⟩ : Field)]), hole, hole]) rfl rfl rfl rfl rfl rfl ⟨⟨⟨rfl, rfl⟩, rfl, rfl, trivial⟩, ⟨(Zau rfl rfl rfl rfl), (Zau rfl rfl rfl rfl), trivial⟩, rfl, rfl, rfl, Nat.le_refl _⟩ (by kernel_rfl) rfl (by kernel_rfl) ?_
  refine Za (Zb (Zg ?_))
  refine Zi (b := 0) (o := 0) (n := 3) (o' := 3) rfl rfl rfl rfl rfl ?_
  refine Zl (p := pt 0 3) (v := .string e.text) rfl rfl rfl (by kernel_rfl) ?_
  refine Zct (e := [some (1, 0), some (2, 0)]) (nid := 0) (Zku (G := G) ((([] ++ [(⟨1, (Zr e.kind).1⟩ : Field)]) ++ [(⟨2, (Zr e.client).1⟩ : Field)]) ++ [(⟨3, (Zr e.seq).1⟩ : Field)]) 3 4 e.text rfl (by omega)) (vals := [pt 1 0, Iv 4, .string e.text]) (v := .tuple #[]) (H' := [bxB 109 (Zc2 e), rfB (slv 2 0 4 4), rwB cFd (((([] ++ [(⟨1, (Zr e.kind).1⟩ : Field)]) ++ [(⟨2, (Zr e.client).1⟩ : Field)]) ++ [(⟨3, (Zr e.seq).1⟩ : Field)]) ++ [(⟨4, e.text⟩ : Field)]), hole, hole]) rfl rfl rfl rfl rfl rfl ⟨⟨⟨rfl, rfl⟩, rfl, rfl, trivial⟩, ⟨(Zau rfl rfl rfl rfl), (Zau rfl rfl rfl rfl), trivial⟩, rfl, rfl, rfl, Nat.le_refl _⟩ (by kernel_rfl) rfl (by kernel_rfl) ?_
  refine Za (Zab (Zb (Zf (Zg ?_))))
  refine Zl (p := pt 1 0) (v := slv 2 0 4 4) rfl rfl rfl rfl ?_
  refine Z4 (e := [some (2, 0)]) (nid := 3) (Zgc (G := G) (((([] ++ [(⟨1, (Zr e.kind).1⟩ : Field)]) ++ [(⟨2, (Zr e.client).1⟩ : Field)]) ++ [(⟨3, (Zr e.seq).1⟩ : Field)]) ++ [(⟨4, e.text⟩ : Field)]) 4 4 rfl (by omega) (by omega)) (vals := [slv 2 0 4 4]) (v := .tuple #[slv 3 0 ((Z8 (((([] ++ [(⟨1, (Zr e.kind).1⟩ : Field)]) ++ [(⟨2, (Zr e.client).1⟩ : Field)]) ++ [(⟨3, (Zr e.seq).1⟩ : Field)]) ++ [(⟨4, e.text⟩ : Field)]) 0 []).1.length) ((Z8 (((([] ++ [(⟨1, (Zr e.kind).1⟩ : Field)]) ++ [(⟨2, (Zr e.client).1⟩ : Field)]) ++ [(⟨3, (Zr e.seq).1⟩ : Field)]) ++ [(⟨4, e.text⟩ : Field)]) 0 []).1.length), Iv ((Z8 (((([] ++ [(⟨1, (Zr e.kind).1⟩ : Field)]) ++ [(⟨2, (Zr e.client).1⟩ : Field)]) ++ [(⟨3, (Zr e.seq).1⟩ : Field)]) ++ [(⟨4, e.text⟩ : Field)]) 0 []).2)]) (H' := [bxB 109 (Zc2 e), rfB (slv 2 0 4 4), rwB cFd (((([] ++ [(⟨1, (Zr e.kind).1⟩ : Field)]) ++ [(⟨2, (Zr e.client).1⟩ : Field)]) ++ [(⟨3, (Zr e.seq).1⟩ : Field)]) ++ [(⟨4, e.text⟩ : Field)]), Zaq ((Z8 (((([] ++ [(⟨1, (Zr e.kind).1⟩ : Field)]) ++ [(⟨2, (Zr e.client).1⟩ : Field)]) ++ [(⟨3, (Zr e.seq).1⟩ : Field)]) ++ [(⟨4, e.text⟩ : Field)]) 0 []).1), hole]) rfl rfl rfl rfl rfl rfl rfl ⟨⟨⟨rfl, rfl, rfl, by first | omega | exact Nat.le_refl _, by first | omega | exact Nat.le_refl _⟩, trivial⟩, ⟨(Zgr rfl), trivial⟩, rfl, rfl, rfl⟩ (by kernel_rfl) (by kernel_rfl) ?_
  refine Zp (vs := #[slv 3 0 ((Z8 (((([] ++ [(⟨1, (Zr e.kind).1⟩ : Field)]) ++ [(⟨2, (Zr e.client).1⟩ : Field)]) ++ [(⟨3, (Zr e.seq).1⟩ : Field)]) ++ [(⟨4, e.text⟩ : Field)]) 0 []).1.length) ((Z8 (((([] ++ [(⟨1, (Zr e.kind).1⟩ : Field)]) ++ [(⟨2, (Zr e.client).1⟩ : Field)]) ++ [(⟨3, (Zr e.seq).1⟩ : Field)]) ++ [(⟨4, e.text⟩ : Field)]) 0 []).1.length), Iv ((Z8 (((([] ++ [(⟨1, (Zr e.kind).1⟩ : Field)]) ++ [(⟨2, (Zr e.client).1⟩ : Field)]) ++ [(⟨3, (Zr e.seq).1⟩ : Field)]) ++ [(⟨4, e.text⟩ : Field)]) 0 []).2)]) (v := slv 3 0 ((Z8 (((([] ++ [(⟨1, (Zr e.kind).1⟩ : Field)]) ++ [(⟨2, (Zr e.client).1⟩ : Field)]) ++ [(⟨3, (Zr e.seq).1⟩ : Field)]) ++ [(⟨4, e.text⟩ : Field)]) 0 []).1.length) ((Z8 (((([] ++ [(⟨1, (Zr e.kind).1⟩ : Field)]) ++ [(⟨2, (Zr e.client).1⟩ : Field)]) ++ [(⟨3, (Zr e.seq).1⟩ : Field)]) ++ [(⟨4, e.text⟩ : Field)]) 0 []).1.length)) rfl rfl rfl rfl (Zp (vs := #[slv 3 0 ((Z8 (((([] ++ [(⟨1, (Zr e.kind).1⟩ : Field)]) ++ [(⟨2, (Zr e.client).1⟩ : Field)]) ++ [(⟨3, (Zr e.seq).1⟩ : Field)]) ++ [(⟨4, e.text⟩ : Field)]) 0 []).1.length) ((Z8 (((([] ++ [(⟨1, (Zr e.kind).1⟩ : Field)]) ++ [(⟨2, (Zr e.client).1⟩ : Field)]) ++ [(⟨3, (Zr e.seq).1⟩ : Field)]) ++ [(⟨4, e.text⟩ : Field)]) 0 []).1.length), Iv ((Z8 (((([] ++ [(⟨1, (Zr e.kind).1⟩ : Field)]) ++ [(⟨2, (Zr e.client).1⟩ : Field)]) ++ [(⟨3, (Zr e.seq).1⟩ : Field)]) ++ [(⟨4, e.text⟩ : Field)]) 0 []).2)]) (v := Iv ((Z8 (((([] ++ [(⟨1, (Zr e.kind).1⟩ : Field)]) ++ [(⟨2, (Zr e.client).1⟩ : Field)]) ++ [(⟨3, (Zr e.seq).1⟩ : Field)]) ++ [(⟨4, e.text⟩ : Field)]) 0 []).2)) rfl rfl rfl rfl (Zc rfl rfl (slv 3 0 ((Z8 (((([] ++ [(⟨1, (Zr e.kind).1⟩ : Field)]) ++ [(⟨2, (Zr e.client).1⟩ : Field)]) ++ [(⟨3, (Zr e.seq).1⟩ : Field)]) ++ [(⟨4, e.text⟩ : Field)]) 0 []).1.length) ((Z8 (((([] ++ [(⟨1, (Zr e.kind).1⟩ : Field)]) ++ [(⟨2, (Zr e.client).1⟩ : Field)]) ++ [(⟨3, (Zr e.seq).1⟩ : Field)]) ++ [(⟨4, e.text⟩ : Field)]) 0 []).1.length)) rfl (Zc rfl rfl (Iv ((Z8 (((([] ++ [(⟨1, (Zr e.kind).1⟩ : Field)]) ++ [(⟨2, (Zr e.client).1⟩ : Field)]) ++ [(⟨3, (Zr e.seq).1⟩ : Field)]) ++ [(⟨4, e.text⟩ : Field)]) 0 []).2)) rfl (Za (Zb (Zt (Zu ?_)))))))
  have ee : (((([] ++ [(⟨1, (Zr e.kind).1⟩ : Field)]) ++ [(⟨2, (Zr e.client).1⟩ : Field)]) ++ [(⟨3, (Zr e.seq).1⟩ : Field)]) ++ [(⟨4, e.text⟩ : Field)]) = Znh e := by unfold Znh; first | (rw [if_pos (by omega)]; done) | (rw [if_pos (by omega)]; rfl) | (rw [if_neg (by omega), if_pos (by omega)]; rfl) | (rw [if_neg (by omega), if_neg (by omega)]; rfl)
  have ez := Zr7 hr
  rw [← ee] at ez
  rw [show Zbu e = ((Z8 (((([] ++ [(⟨1, (Zr e.kind).1⟩ : Field)]) ++ [(⟨2, (Zr e.client).1⟩ : Field)]) ++ [(⟨3, (Zr e.seq).1⟩ : Field)]) ++ [(⟨4, e.text⟩ : Field)]) 0 []).1, (Z8 (((([] ++ [(⟨1, (Zr e.kind).1⟩ : Field)]) ++ [(⟨2, (Zr e.client).1⟩ : Field)]) ++ [(⟨3, (Zr e.seq).1⟩ : Field)]) ++ [(⟨4, e.text⟩ : Field)]) 0 []).2) from by rw [ez, ee]; exact if_pos hr]
  exact Za7 [3] (v := .tuple #[slv 3 0 ((Z8 (((([] ++ [(⟨1, (Zr e.kind).1⟩ : Field)]) ++ [(⟨2, (Zr e.client).1⟩ : Field)]) ++ [(⟨3, (Zr e.seq).1⟩ : Field)]) ++ [(⟨4, e.text⟩ : Field)]) 0 []).1.length) ((Z8 (((([] ++ [(⟨1, (Zr e.kind).1⟩ : Field)]) ++ [(⟨2, (Zr e.client).1⟩ : Field)]) ++ [(⟨3, (Zr e.seq).1⟩ : Field)]) ++ [(⟨4, e.text⟩ : Field)]) 0 []).1.length), Iv ((Z8 (((([] ++ [(⟨1, (Zr e.kind).1⟩ : Field)]) ++ [(⟨2, (Zr e.client).1⟩ : Field)]) ++ [(⟨3, (Zr e.seq).1⟩ : Field)]) ++ [(⟨4, e.text⟩ : Field)]) 0 []).2)]) rfl (by kernel_rfl) rfl rfl (by decide) (by simp [Za9, Zaq]) ⟨⟨rfl, rfl, rfl, by first | omega | exact Nat.le_refl _ | exact Nat.zero_le _ | (dsimp only; omega), by first | omega | exact Nat.le_refl _ | exact Nat.zero_le _ | (dsimp only; omega)⟩, rfl, trivial⟩
  refine Zk (vx := Iv e.kind) (vy := Iv 1) rfl rfl (.bool false) rfl rfl (Zge (by omega)) ?_
  refine Zc rfl rfl (.bool false) rfl (Za (Zb (Zv rfl (Zf (Zg ?_)))))
  by_cases h3 : e.kind = 2
  refine Zk (vx := Iv e.kind) (vy := Iv 2) rfl rfl (.bool true) rfl rfl (Zdl (by omega)) ?_
  refine Zc rfl rfl (.bool true) rfl (Za (Zb (Zz rfl (Zf (Zg ?_)))))
  refine Zi (b := 0) (o := 0) (n := 4) (o' := 4) rfl rfl rfl rfl rfl ?_
  refine Zl (p := pt 0 4) (v := Z0 e.head) rfl rfl rfl (by kernel_rfl) ?_
  refine Z4 (e := []) (nid := 3) (Zmv (G := G) e.head) (vals := [Z0 e.head]) (v := .tuple #[slv 3 0 ((Zak e.head).1.length) ((Zak e.head).1.length), Iv ((Zak e.head).2)]) (H' := [bxB 109 (Zc2 e), rfB (slv 2 0 1 1), rwB cFd ([] ++ [(⟨1, (Zr e.kind).1⟩ : Field)]), Zaq ((Zak e.head).1), hole]) rfl rfl rfl rfl rfl rfl rfl ⟨⟨rfl, trivial⟩, trivial, rfl, rfl, rfl⟩ (by kernel_rfl) (by kernel_rfl) ?_
  refine Ze rfl rfl (.tuple #[slv 3 0 ((Zak e.head).1.length) ((Zak e.head).1.length), Iv ((Zak e.head).2)]) rfl (Zp (vs := #[slv 3 0 ((Zak e.head).1.length) ((Zak e.head).1.length), Iv ((Zak e.head).2)]) (v := slv 3 0 ((Zak e.head).1.length) ((Zak e.head).1.length)) rfl rfl rfl rfl (Zp (vs := #[slv 3 0 ((Zak e.head).1.length) ((Zak e.head).1.length), Iv ((Zak e.head).2)]) (v := Iv ((Zak e.head).2)) rfl rfl rfl rfl (Zc rfl rfl (slv 3 0 ((Zak e.head).1.length) ((Zak e.head).1.length)) rfl (Zc rfl rfl (Iv ((Zak e.head).2)) rfl (Za (Zb (Zg (Ze rfl rfl (slv 3 0 ((Zak e.head).1.length) ((Zak e.head).1.length)) rfl ?_))))))))
  refine Zfm (p := slv 3 0 ((Zak e.head).1.length) ((Zak e.head).1.length)) (v := .string (Zn ((Zak e.head).1))) rfl rfl rfl (Zfl rfl rfl rfl rfl rfl (by omega)) ?_
  refine Zct (e := [some (1, 0), some (2, 0)]) (nid := 0) (Zku (G := G) ([] ++ [(⟨1, (Zr e.kind).1⟩ : Field)]) 1 5 (Zn ((Zak e.head).1)) rfl (by omega)) (vals := [pt 1 0, Iv 5, .string (Zn ((Zak e.head).1))]) (v := .tuple #[]) (H' := [bxB 109 (Zc2 e), rfB (slv 2 0 2 2), rwB cFd (([] ++ [(⟨1, (Zr e.kind).1⟩ : Field)]) ++ [(⟨5, (Zn ((Zak e.head).1))⟩ : Field)]), Zaq ((Zak e.head).1), hole]) rfl rfl rfl rfl rfl rfl ⟨⟨⟨rfl, rfl⟩, rfl, rfl, trivial⟩, ⟨(Zau rfl rfl rfl rfl), (Zau rfl rfl rfl rfl), trivial⟩, rfl, rfl, rfl, Nat.le_refl _⟩ (by kernel_rfl) rfl (by kernel_rfl) ?_
  refine Za (Zab (Zb (Zf (Zg ?_))))
  refine Zl (p := pt 1 0) (v := slv 2 0 2 2) rfl rfl rfl rfl ?_
  refine Z4 (e := [some (2, 0)]) (nid := 4) (Zgc (G := G) (([] ++ [(⟨1, (Zr e.kind).1⟩ : Field)]) ++ [(⟨5, (Zn ((Zak e.head).1))⟩ : Field)]) 2 2 rfl (by omega) (by omega)) (vals := [slv 2 0 2 2]) (v := .tuple #[slv 4 0 ((Z8 (([] ++ [(⟨1, (Zr e.kind).1⟩ : Field)]) ++ [(⟨5, (Zn ((Zak e.head).1))⟩ : Field)]) 0 []).1.length) ((Z8 (([] ++ [(⟨1, (Zr e.kind).1⟩ : Field)]) ++ [(⟨5, (Zn ((Zak e.head).1))⟩ : Field)]) 0 []).1.length), Iv ((Z8 (([] ++ [(⟨1, (Zr e.kind).1⟩ : Field)]) ++ [(⟨5, (Zn ((Zak e.head).1))⟩ : Field)]) 0 []).2)]) (H' := [bxB 109 (Zc2 e), rfB (slv 2 0 2 2), rwB cFd (([] ++ [(⟨1, (Zr e.kind).1⟩ : Field)]) ++ [(⟨5, (Zn ((Zak e.head).1))⟩ : Field)]), Zaq ((Zak e.head).1), Zaq ((Z8 (([] ++ [(⟨1, (Zr e.kind).1⟩ : Field)]) ++ [(⟨5, (Zn ((Zak e.head).1))⟩ : Field)]) 0 []).1)]) rfl rfl rfl rfl rfl rfl rfl ⟨⟨⟨rfl, rfl, rfl, by first | omega | exact Nat.le_refl _, by first | omega | exact Nat.le_refl _⟩, trivial⟩, ⟨(Zgr rfl), trivial⟩, rfl, rfl, rfl⟩ (by kernel_rfl) (by kernel_rfl) ?_
  refine Zp (vs := #[slv 4 0 ((Z8 (([] ++ [(⟨1, (Zr e.kind).1⟩ : Field)]) ++ [(⟨5, (Zn ((Zak e.head).1))⟩ : Field)]) 0 []).1.length) ((Z8 (([] ++ [(⟨1, (Zr e.kind).1⟩ : Field)]) ++ [(⟨5, (Zn ((Zak e.head).1))⟩ : Field)]) 0 []).1.length), Iv ((Z8 (([] ++ [(⟨1, (Zr e.kind).1⟩ : Field)]) ++ [(⟨5, (Zn ((Zak e.head).1))⟩ : Field)]) 0 []).2)]) (v := slv 4 0 ((Z8 (([] ++ [(⟨1, (Zr e.kind).1⟩ : Field)]) ++ [(⟨5, (Zn ((Zak e.head).1))⟩ : Field)]) 0 []).1.length) ((Z8 (([] ++ [(⟨1, (Zr e.kind).1⟩ : Field)]) ++ [(⟨5, (Zn ((Zak e.head).1))⟩ : Field)]) 0 []).1.length)) rfl rfl rfl rfl (Zp (vs := #[slv 4 0 ((Z8 (([] ++ [(⟨1, (Zr e.kind).1⟩ : Field)]) ++ [(⟨5, (Zn ((Zak e.head).1))⟩ : Field)]) 0 []).1.length) ((Z8 (([] ++ [(⟨1, (Zr e.kind).1⟩ : Field)]) ++ [(⟨5, (Zn ((Zak e.head).1))⟩ : Field)]) 0 []).1.length), Iv ((Z8 (([] ++ [(⟨1, (Zr e.kind).1⟩ : Field)]) ++ [(⟨5, (Zn ((Zak e.head).1))⟩ : Field)]) 0 []).2)]) (v := Iv ((Z8 (([] ++ [(⟨1, (Zr e.kind).1⟩ : Field)]) ++ [(⟨5, (Zn ((Zak e.head).1))⟩ : Field)]) 0 []).2)) rfl rfl rfl rfl (Zc rfl rfl (slv 4 0 ((Z8 (([] ++ [(⟨1, (Zr e.kind).1⟩ : Field)]) ++ [(⟨5, (Zn ((Zak e.head).1))⟩ : Field)]) 0 []).1.length) ((Z8 (([] ++ [(⟨1, (Zr e.kind).1⟩ : Field)]) ++ [(⟨5, (Zn ((Zak e.head).1))⟩ : Field)]) 0 []).1.length)) rfl (Zc rfl rfl (Iv ((Z8 (([] ++ [(⟨1, (Zr e.kind).1⟩ : Field)]) ++ [(⟨5, (Zn ((Zak e.head).1))⟩ : Field)]) 0 []).2)) rfl (Za (Zb (Zt (Zu ?_)))))))
  have ee : (([] ++ [(⟨1, (Zr e.kind).1⟩ : Field)]) ++ [(⟨5, (Zn ((Zak e.head).1))⟩ : Field)]) = Znh e := by unfold Znh; first | (rw [if_pos (by omega)]; done) | (rw [if_pos (by omega)]; rfl) | (rw [if_neg (by omega), if_pos (by omega)]; rfl) | (rw [if_neg (by omega), if_neg (by omega)]; rfl)
  have ez := Zr7 hr
  rw [← ee] at ez
  rw [show Zbu e = ((Z8 (([] ++ [(⟨1, (Zr e.kind).1⟩ : Field)]) ++ [(⟨5, (Zn ((Zak e.head).1))⟩ : Field)]) 0 []).1, (Z8 (([] ++ [(⟨1, (Zr e.kind).1⟩ : Field)]) ++ [(⟨5, (Zn ((Zak e.head).1))⟩ : Field)]) 0 []).2) from by rw [ez, ee]; exact if_pos hr]
  exact Za7 [4] (v := .tuple #[slv 4 0 ((Z8 (([] ++ [(⟨1, (Zr e.kind).1⟩ : Field)]) ++ [(⟨5, (Zn ((Zak e.head).1))⟩ : Field)]) 0 []).1.length) ((Z8 (([] ++ [(⟨1, (Zr e.kind).1⟩ : Field)]) ++ [(⟨5, (Zn ((Zak e.head).1))⟩ : Field)]) 0 []).1.length), Iv ((Z8 (([] ++ [(⟨1, (Zr e.kind).1⟩ : Field)]) ++ [(⟨5, (Zn ((Zak e.head).1))⟩ : Field)]) 0 []).2)]) rfl (by kernel_rfl) rfl rfl (by decide) (by simp [Za9, Zaq]) ⟨⟨rfl, rfl, rfl, by first | omega | exact Nat.le_refl _ | exact Nat.zero_le _ | (dsimp only; omega), by first | omega | exact Nat.le_refl _ | exact Nat.zero_le _ | (dsimp only; omega)⟩, rfl, trivial⟩
  refine Zk (vx := Iv e.kind) (vy := Iv 2) rfl rfl (.bool false) rfl rfl (Zge (by omega)) ?_
  refine Zc rfl rfl (.bool false) rfl (Za (Zb (Zv rfl (Zf (Zg ?_)))))
  refine Zk (vx := Iv e.kind) (vy := Iv 3) rfl rfl (.bool true) rfl rfl (Zdl (by omega)) ?_
  refine Zc rfl rfl (.bool true) rfl (Za (Zb (Zz rfl (Zf (Zg ?_)))))
  refine Zi (b := 0) (o := 0) (n := 73) (o' := 73) rfl rfl rfl rfl rfl ?_
  refine Zl (p := pt 0 73) (v := Zeo e.claim) rfl rfl rfl (by kernel_rfl) ?_
  refine Z4 (e := []) (nid := 3) (Ztj (G := G) e.claim) (vals := [Zeo e.claim]) (v := .tuple #[slv 3 0 ((Zcf e.claim).1.length) ((Zcf e.claim).1.length), Iv ((Zcf e.claim).2)]) (H' := [bxB 109 (Zc2 e), rfB (slv 2 0 1 1), rwB cFd ([] ++ [(⟨1, (Zr e.kind).1⟩ : Field)]), Zaq ((Zcf e.claim).1), hole]) rfl rfl rfl rfl rfl rfl rfl ⟨⟨rfl, trivial⟩, trivial, rfl, rfl, rfl⟩ (by kernel_rfl) (by kernel_rfl) ?_
  refine Ze rfl rfl (.tuple #[slv 3 0 ((Zcf e.claim).1.length) ((Zcf e.claim).1.length), Iv ((Zcf e.claim).2)]) rfl (Zp (vs := #[slv 3 0 ((Zcf e.claim).1.length) ((Zcf e.claim).1.length), Iv ((Zcf e.claim).2)]) (v := slv 3 0 ((Zcf e.claim).1.length) ((Zcf e.claim).1.length)) rfl rfl rfl rfl (Zp (vs := #[slv 3 0 ((Zcf e.claim).1.length) ((Zcf e.claim).1.length), Iv ((Zcf e.claim).2)]) (v := Iv ((Zcf e.claim).2)) rfl rfl rfl rfl (Zc rfl rfl (slv 3 0 ((Zcf e.claim).1.length) ((Zcf e.claim).1.length)) rfl (Zc rfl rfl (Iv ((Zcf e.claim).2)) rfl (Za (Zb (Zg (Ze rfl rfl (slv 3 0 ((Zcf e.claim).1.length) ((Zcf e.claim).1.length)) rfl ?_))))))))
  refine Zfm (p := slv 3 0 ((Zcf e.claim).1.length) ((Zcf e.claim).1.length)) (v := .string (Zn ((Zcf e.claim).1))) rfl rfl rfl (Zfl rfl rfl rfl rfl rfl (by omega)) ?_
  refine Zct (e := [some (1, 0), some (2, 0)]) (nid := 0) (Zku (G := G) ([] ++ [(⟨1, (Zr e.kind).1⟩ : Field)]) 1 6 (Zn ((Zcf e.claim).1)) rfl (by omega)) (vals := [pt 1 0, Iv 6, .string (Zn ((Zcf e.claim).1))]) (v := .tuple #[]) (H' := [bxB 109 (Zc2 e), rfB (slv 2 0 2 2), rwB cFd (([] ++ [(⟨1, (Zr e.kind).1⟩ : Field)]) ++ [(⟨6, (Zn ((Zcf e.claim).1))⟩ : Field)]), Zaq ((Zcf e.claim).1), hole]) rfl rfl rfl rfl rfl rfl ⟨⟨⟨rfl, rfl⟩, rfl, rfl, trivial⟩, ⟨(Zau rfl rfl rfl rfl), (Zau rfl rfl rfl rfl), trivial⟩, rfl, rfl, rfl, Nat.le_refl _⟩ (by kernel_rfl) rfl (by kernel_rfl) ?_
  refine Za (Zab (Zb (Zf (Zg ?_))))
  refine Zl (p := pt 1 0) (v := slv 2 0 2 2) rfl rfl rfl rfl ?_
  refine Z4 (e := [some (2, 0)]) (nid := 4) (Zgc (G := G) (([] ++ [(⟨1, (Zr e.kind).1⟩ : Field)]) ++ [(⟨6, (Zn ((Zcf e.claim).1))⟩ : Field)]) 2 2 rfl (by omega) (by omega)) (vals := [slv 2 0 2 2]) (v := .tuple #[slv 4 0 ((Z8 (([] ++ [(⟨1, (Zr e.kind).1⟩ : Field)]) ++ [(⟨6, (Zn ((Zcf e.claim).1))⟩ : Field)]) 0 []).1.length) ((Z8 (([] ++ [(⟨1, (Zr e.kind).1⟩ : Field)]) ++ [(⟨6, (Zn ((Zcf e.claim).1))⟩ : Field)]) 0 []).1.length), Iv ((Z8 (([] ++ [(⟨1, (Zr e.kind).1⟩ : Field)]) ++ [(⟨6, (Zn ((Zcf e.claim).1))⟩ : Field)]) 0 []).2)]) (H' := [bxB 109 (Zc2 e), rfB (slv 2 0 2 2), rwB cFd (([] ++ [(⟨1, (Zr e.kind).1⟩ : Field)]) ++ [(⟨6, (Zn ((Zcf e.claim).1))⟩ : Field)]), Zaq ((Zcf e.claim).1), Zaq ((Z8 (([] ++ [(⟨1, (Zr e.kind).1⟩ : Field)]) ++ [(⟨6, (Zn ((Zcf e.claim).1))⟩ : Field)]) 0 []).1)]) rfl rfl rfl rfl rfl rfl rfl ⟨⟨⟨rfl, rfl, rfl, by first | omega | exact Nat.le_refl _, by first | omega | exact Nat.le_refl _⟩, trivial⟩, ⟨(Zgr rfl), trivial⟩, rfl, rfl, rfl⟩ (by kernel_rfl) (by kernel_rfl) ?_
  refine Zp (vs := #[slv 4 0 ((Z8 (([] ++ [(⟨1, (Zr e.kind).1⟩ : Field)]) ++ [(⟨6, (Zn ((Zcf e.claim).1))⟩ : Field)]) 0 []).1.length) ((Z8 (([] ++ [(⟨1, (Zr e.kind).1⟩ : Field)]) ++ [(⟨6, (Zn ((Zcf e.claim).1))⟩ : Field)]) 0 []).1.length), Iv ((Z8 (([] ++ [(⟨1, (Zr e.kind).1⟩ : Field)]) ++ [(⟨6, (Zn ((Zcf e.claim).1))⟩ : Field)]) 0 []).2)]) (v := slv 4 0 ((Z8 (([] ++ [(⟨1, (Zr e.kind).1⟩ : Field)]) ++ [(⟨6, (Zn ((Zcf e.claim).1))⟩ : Field)]) 0 []).1.length) ((Z8 (([] ++ [(⟨1, (Zr e.kind).1⟩ : Field)]) ++ [(⟨6, (Zn ((Zcf e.claim).1))⟩ : Field)]) 0 []).1.length)) rfl rfl rfl rfl (Zp (vs := #[slv 4 0 ((Z8 (([] ++ [(⟨1, (Zr e.kind).1⟩ : Field)]) ++ [(⟨6, (Zn ((Zcf e.claim).1))⟩ : Field)]) 0 []).1.length) ((Z8 (([] ++ [(⟨1, (Zr e.kind).1⟩ : Field)]) ++ [(⟨6, (Zn ((Zcf e.claim).1))⟩ : Field)]) 0 []).1.length), Iv ((Z8 (([] ++ [(⟨1, (Zr e.kind).1⟩ : Field)]) ++ [(⟨6, (Zn ((Zcf e.claim).1))⟩ : Field)]) 0 []).2)]) (v := Iv ((Z8 (([] ++ [(⟨1, (Zr e.kind).1⟩ : Field)]) ++ [(⟨6, (Zn ((Zcf e.claim).1))⟩ : Field)]) 0 []).2)) rfl rfl rfl rfl (Zc rfl rfl (slv 4 0 ((Z8 (([] ++ [(⟨1, (Zr e.kind).1⟩ : Field)]) ++ [(⟨6, (Zn ((Zcf e.claim).1))⟩ : Field)]) 0 []).1.length) ((Z8 (([] ++ [(⟨1, (Zr e.kind).1⟩ : Field)]) ++ [(⟨6, (Zn ((Zcf e.claim).1))⟩ : Field)]) 0 []).1.length)) rfl (Zc rfl rfl (Iv ((Z8 (([] ++ [(⟨1, (Zr e.kind).1⟩ : Field)]) ++ [(⟨6, (Zn ((Zcf e.claim).1))⟩ : Field)]) 0 []).2)) rfl (Za (Zb (Zt (Zu ?_)))))))
  have ee : (([] ++ [(⟨1, (Zr e.kind).1⟩ : Field)]) ++ [(⟨6, (Zn ((Zcf e.claim).1))⟩ : Field)]) = Znh e := by unfold Znh; first | (rw [if_pos (by omega)]; done) | (rw [if_pos (by omega)]; rfl) | (rw [if_neg (by omega), if_pos (by omega)]; rfl) | (rw [if_neg (by omega), if_neg (by omega)]; rfl)
  have ez := Zr7 hr
  rw [← ee] at ez
  rw [show Zbu e = ((Z8 (([] ++ [(⟨1, (Zr e.kind).1⟩ : Field)]) ++ [(⟨6, (Zn ((Zcf e.claim).1))⟩ : Field)]) 0 []).1, (Z8 (([] ++ [(⟨1, (Zr e.kind).1⟩ : Field)]) ++ [(⟨6, (Zn ((Zcf e.claim).1))⟩ : Field)]) 0 []).2) from by rw [ez, ee]; exact if_pos hr]
  exact Za7 [4] (v := .tuple #[slv 4 0 ((Z8 (([] ++ [(⟨1, (Zr e.kind).1⟩ : Field)]) ++ [(⟨6, (Zn ((Zcf e.claim).1))⟩ : Field)]) 0 []).1.length) ((Z8 (([] ++ [(⟨1, (Zr e.kind).1⟩ : Field)]) ++ [(⟨6, (Zn ((Zcf e.claim).1))⟩ : Field)]) 0 []).1.length), Iv ((Z8 (([] ++ [(⟨1, (Zr e.kind).1⟩ : Field)]) ++ [(⟨6, (Zn ((Zcf e.claim).1))⟩ : Field)]) 0 []).2)]) rfl (by kernel_rfl) rfl rfl (by decide) (by simp [Za9, Zaq]) ⟨⟨rfl, rfl, rfl, by first | omega | exact Nat.le_refl _ | exact Nat.zero_le _ | (dsimp only; omega), by first | omega | exact Nat.le_refl _ | exact Nat.zero_le _ | (dsimp only; omega)⟩, rfl, trivial⟩
theorem Zvs (x : Item) : Zae Tryd.prog G 32 [Za1 x] [] (.tuple #[slv 0 0 (Zci x).1.length (Zci x).1.length, Iv (Zci x).2]) [Zaq (Zci x).1] := by
  refine Zbj (fn := Tryd.f32) (nt := 31) rfl rfl rfl rfl ?_
  refine Zaj 5 (H' := [hole, hole, hole, hole, hole]) rfl ?_
  refine Zf (Zg ?_)
  refine Zbr (v := Za1 x) (b := bxB 110 (Zh x)) (nid := 0) (H' := [bxB 110 (Zh x), hole, hole, hole, hole]) rfl rfl rfl (by kernel_rfl) (by kernel_rfl) ?_
  refine Zc rfl rfl (.slice none 0 0) rfl (Zc rfl rfl (Iv 0) rfl (Za (Zb (Zf (Zg ?_)))))
  refine Zi (b := 0) (o := 0) (n := 1) (o' := 1) rfl rfl rfl rfl rfl ?_
  refine Zl (p := pt 0 1) (v := Zc7 x.entry) rfl rfl rfl (by kernel_rfl) ?_
  refine Z4 (e := []) (nid := 1) (Z3j (G := G) x.entry) (vals := [Zc7 x.entry]) (v := .tuple #[slv 1 0 ((Zbu x.entry).1.length) ((Zbu x.entry).1.length), Iv ((Zbu x.entry).2)]) (H' := [bxB 110 (Zh x), Zaq ((Zbu x.entry).1), hole, hole, hole]) rfl rfl rfl rfl rfl rfl rfl ⟨⟨rfl, trivial⟩, trivial, rfl, rfl, rfl⟩ (by kernel_rfl) (by kernel_rfl) ?_
  refine Ze rfl rfl (.tuple #[slv 1 0 ((Zbu x.entry).1.length) ((Zbu x.entry).1.length), Iv ((Zbu x.entry).2)]) rfl (Zp (vs := #[slv 1 0 ((Zbu x.entry).1.length) ((Zbu x.entry).1.length), Iv ((Zbu x.entry).2)]) (v := slv 1 0 ((Zbu x.entry).1.length) ((Zbu x.entry).1.length)) rfl rfl rfl rfl (Zp (vs := #[slv 1 0 ((Zbu x.entry).1.length) ((Zbu x.entry).1.length), Iv ((Zbu x.entry).2)]) (v := Iv ((Zbu x.entry).2)) rfl rfl rfl rfl (Zc rfl rfl (slv 1 0 ((Zbu x.entry).1.length) ((Zbu x.entry).1.length)) rfl (Zc rfl rfl (Iv ((Zbu x.entry).2)) rfl (Za (Zb (Zf (Zf (Zg (Ze rfl rfl (Iv ((Zbu x.entry).2)) rfl ?_))))))))))
  by_cases h1 : ((Zbu x.entry).2) ≠ 0
  refine Zk (vx := Iv ((Zbu x.entry).2)) (vy := Iv 0) rfl rfl (.bool true) rfl rfl (Zdg (by omega)) ?_
  refine Ze rfl rfl (.bool true) rfl (Zj rfl rfl (Zj rfl rfl (Zj rfl rfl (Zj rfl rfl (Zo rfl rfl (.bool true) rfl (Za (Zb (Zz rfl (Zf (Zg (Zc rfl rfl (.slice none 0 0) rfl (Zc rfl rfl (Iv 60) rfl (Za (Zb ?_))))))))))))))
  refine Zb4 (Zbz.nilTmp (i := 2) (b := 2) true 1 rfl (by decide) rfl) ?_
  refine Zt (Z3 (Zu ?_))
  rw [show Zci x = ([], 60) from if_neg (fun q => by have q1 := q.1; have q2 := q.2.1; first | omega | (have := Zvg q.2.2; omega))]
  exact Za7 [2] (v := .tuple #[slv 2 0 0 0, Iv 60]) rfl (by kernel_rfl) rfl rfl (by decide) (by simp [Za9, Zaq]) ⟨⟨rfl, rfl, rfl, by first | omega | exact Nat.le_refl _ | exact Nat.zero_le _ | (dsimp only; omega), by first | omega | exact Nat.le_refl _ | exact Nat.zero_le _ | (dsimp only; omega)⟩, rfl, trivial⟩
  refine Zk (vx := Iv ((Zbu x.entry).2)) (vy := Iv 0) rfl rfl (.bool false) rfl rfl (Zc5 (by omega)) ?_
  refine Ze rfl rfl (.bool false) rfl ?_
  refine Zi (b := 0) (o := 0) (n := 0) (o' := 0) rfl rfl rfl rfl rfl ?_
  refine Zl (p := pt 0 0) (v := Iv x.epoch) rfl rfl rfl (by kernel_rfl) ?_
  by_cases h2 : 1 ≤ x.epoch
  by_cases h3 : x.epoch ≤ 900000000
  refine Zq ((Za3 (G := G) x.epoch 1 900000000).res (congrArg Value.bool (Zb9 (by omega) (by omega)))) (vals := [Iv x.epoch, Iv 1, Iv 900000000]) (res' := .bool true) rfl rfl rfl rfl rfl rfl ?_
  refine Zha (vx := .bool true) rfl rfl (.bool false) rfl Zd0 ?_
  refine Zo rfl rfl (.bool false) rfl (Za (Zb (Zv rfl (Z2 (Zb (Zf (Zg ?_)))))))
  refine Z7 (b := rfB (.slice none 0 0)) (nid := 2) (H' := [bxB 110 (Zh x), Zaq ((Zbu x.entry).1), rfB (.slice none 0 0), hole, hole]) rfl rfl (by kernel_rfl) (by kernel_rfl) ?_
  refine Za (Zb (Zf ?_))
  refine Zb4 (Zbz.nilCell (k := 2) (j := 0) (b := 3) true 2 rfl (by decide) rfl (by show 0 < 1; decide) rfl rfl) ?_
  refine Zg ?_
  refine Zi (b := 0) (o := 0) (n := 0) (o' := 0) rfl rfl rfl rfl rfl ?_
  refine Zl (p := pt 0 0) (v := Iv x.epoch) rfl rfl rfl (by kernel_rfl) ?_
  refine Zct (e := [some (2, 0), some (3, 0)]) (nid := 0) (Zlt (G := G) [] 0 1 x.epoch rfl (by omega) (by omega) (by omega)) (vals := [pt 2 0, Iv 1, Iv x.epoch]) (v := .tuple #[]) (H' := [bxB 110 (Zh x), Zaq ((Zbu x.entry).1), rfB (slv 3 0 1 1), rwB cFd ([] ++ [(⟨1, (Zr x.epoch).1⟩ : Field)]), hole]) rfl rfl rfl rfl rfl rfl ⟨⟨⟨rfl, rfl⟩, rfl, rfl, trivial⟩, ⟨(Zau rfl rfl rfl rfl), (Zau rfl rfl rfl rfl), trivial⟩, rfl, rfl, rfl, Nat.le_refl _⟩ (by kernel_rfl) rfl (by kernel_rfl) ?_
  refine Za (Zb (Zf (Zg (Ze rfl rfl (slv 1 0 ((Zbu x.entry).1.length) ((Zbu x.entry).1.length)) rfl ?_))))
  refine Zfm (p := slv 1 0 ((Zbu x.entry).1.length) ((Zbu x.entry).1.length)) (v := .string (Zn ((Zbu x.entry).1))) rfl rfl rfl (Zfl rfl rfl rfl rfl rfl (by omega)) ?_
  refine Zct (e := [some (2, 0), some (3, 0)]) (nid := 0) (Zku (G := G) ([] ++ [(⟨1, (Zr x.epoch).1⟩ : Field)]) 1 2 (Zn ((Zbu x.entry).1)) rfl (by omega)) (vals := [pt 2 0, Iv 2, .string (Zn ((Zbu x.entry).1))]) (v := .tuple #[]) (H' := [bxB 110 (Zh x), Zaq ((Zbu x.entry).1), rfB (slv 3 0 2 2), rwB cFd (([] ++ [(⟨1, (Zr x.epoch).1⟩ : Field)]) ++ [(⟨2, (Zn ((Zbu x.entry).1))⟩ : Field)]), hole]) rfl rfl rfl rfl rfl rfl ⟨⟨⟨rfl, rfl⟩, rfl, rfl, trivial⟩, ⟨(Zau rfl rfl rfl rfl), (Zau rfl rfl rfl rfl), trivial⟩, rfl, rfl, rfl, Nat.le_refl _⟩ (by kernel_rfl) rfl (by kernel_rfl) ?_
  refine Za (Zb (Zf (Zg ?_)))
  refine Zl (p := pt 2 0) (v := slv 3 0 2 2) rfl rfl rfl rfl ?_
  refine Z4 (e := [some (3, 0)]) (nid := 4) (Zgc (G := G) (([] ++ [(⟨1, (Zr x.epoch).1⟩ : Field)]) ++ [(⟨2, (Zn ((Zbu x.entry).1))⟩ : Field)]) 2 2 rfl (by omega) (by omega)) (vals := [slv 3 0 2 2]) (v := .tuple #[slv 4 0 ((Z8 (([] ++ [(⟨1, (Zr x.epoch).1⟩ : Field)]) ++ [(⟨2, (Zn ((Zbu x.entry).1))⟩ : Field)]) 0 []).1.length) ((Z8 (([] ++ [(⟨1, (Zr x.epoch).1⟩ : Field)]) ++ [(⟨2, (Zn ((Zbu x.entry).1))⟩ : Field)]) 0 []).1.length), Iv ((Z8 (([] ++ [(⟨1, (Zr x.epoch).1⟩ : Field)]) ++ [(⟨2, (Zn ((Zbu x.entry).1))⟩ : Field)]) 0 []).2)]) (H' := [bxB 110 (Zh x), Zaq ((Zbu x.entry).1), rfB (slv 3 0 2 2), rwB cFd (([] ++ [(⟨1, (Zr x.epoch).1⟩ : Field)]) ++ [(⟨2, (Zn ((Zbu x.entry).1))⟩ : Field)]), Zaq ((Z8 (([] ++ [(⟨1, (Zr x.epoch).1⟩ : Field)]) ++ [(⟨2, (Zn ((Zbu x.entry).1))⟩ : Field)]) 0 []).1)]) rfl rfl rfl rfl rfl rfl rfl ⟨⟨⟨rfl, rfl, rfl, by first | omega | exact Nat.le_refl _, by first | omega | exact Nat.le_refl _⟩, trivial⟩, ⟨(Zgr rfl), trivial⟩, rfl, rfl, rfl⟩ (by kernel_rfl) (by kernel_rfl) ?_
  refine Zp (vs := #[slv 4 0 ((Z8 (([] ++ [(⟨1, (Zr x.epoch).1⟩ : Field)]) ++ [(⟨2, (Zn ((Zbu x.entry).1))⟩ : Field)]) 0 []).1.length) ((Z8 (([] ++ [(⟨1, (Zr x.epoch).1⟩ : Field)]) ++ [(⟨2, (Zn ((Zbu x.entry).1))⟩ : Field)]) 0 []).1.length), Iv ((Z8 (([] ++ [(⟨1, (Zr x.epoch).1⟩ : Field)]) ++ [(⟨2, (Zn ((Zbu x.entry).1))⟩ : Field)]) 0 []).2)]) (v := slv 4 0 ((Z8 (([] ++ [(⟨1, (Zr x.epoch).1⟩ : Field)]) ++ [(⟨2, (Zn ((Zbu x.entry).1))⟩ : Field)]) 0 []).1.length) ((Z8 (([] ++ [(⟨1, (Zr x.epoch).1⟩ : Field)]) ++ [(⟨2, (Zn ((Zbu x.entry).1))⟩ : Field)]) 0 []).1.length)) rfl rfl rfl rfl (Zp (vs := #[slv 4 0 ((Z8 (([] ++ [(⟨1, (Zr x.epoch).1⟩ : Field)]) ++ [(⟨2, (Zn ((Zbu x.entry).1))⟩ : Field)]) 0 []).1.length) ((Z8 (([] ++ [(⟨1, (Zr x.epoch).1⟩ : Field)]) ++ [(⟨2, (Zn ((Zbu x.entry).1))⟩ : Field)]) 0 []).1.length), Iv ((Z8 (([] ++ [(⟨1, (Zr x.epoch).1⟩ : Field)]) ++ [(⟨2, (Zn ((Zbu x.entry).1))⟩ : Field)]) 0 []).2)]) (v := Iv ((Z8 (([] ++ [(⟨1, (Zr x.epoch).1⟩ : Field)]) ++ [(⟨2, (Zn ((Zbu x.entry).1))⟩ : Field)]) 0 []).2)) rfl rfl rfl rfl (Zc rfl rfl (slv 4 0 ((Z8 (([] ++ [(⟨1, (Zr x.epoch).1⟩ : Field)]) ++ [(⟨2, (Zn ((Zbu x.entry).1))⟩ : Field)]) 0 []).1.length) ((Z8 (([] ++ [(⟨1, (Zr x.epoch).1⟩ : Field)]) ++ [(⟨2, (Zn ((Zbu x.entry).1))⟩ : Field)]) 0 []).1.length)) rfl (Zc rfl rfl (Iv ((Z8 (([] ++ [(⟨1, (Zr x.epoch).1⟩ : Field)]) ++ [(⟨2, (Zn ((Zbu x.entry).1))⟩ : Field)]) 0 []).2)) rfl (Za (Zb (Zt (Zu ?_)))))))
  have ee : (([] ++ [(⟨1, (Zr x.epoch).1⟩ : Field)]) ++ [(⟨2, (Zn ((Zbu x.entry).1))⟩ : Field)]) = Zpu x := rfl
  have ez := Zz1 x
  rw [← ee] at ez
  rw [show Zci x = ((Z8 (([] ++ [(⟨1, (Zr x.epoch).1⟩ : Field)]) ++ [(⟨2, (Zn ((Zbu x.entry).1))⟩ : Field)]) 0 []).1, (Z8 (([] ++ [(⟨1, (Zr x.epoch).1⟩ : Field)]) ++ [(⟨2, (Zn ((Zbu x.entry).1))⟩ : Field)]) 0 []).2) from by rw [ez, ee]; exact if_pos ⟨by omega, by omega, Z49 (by omega)⟩]
  exact Za7 [4] (v := .tuple #[slv 4 0 ((Z8 (([] ++ [(⟨1, (Zr x.epoch).1⟩ : Field)]) ++ [(⟨2, (Zn ((Zbu x.entry).1))⟩ : Field)]) 0 []).1.length) ((Z8 (([] ++ [(⟨1, (Zr x.epoch).1⟩ : Field)]) ++ [(⟨2, (Zn ((Zbu x.entry).1))⟩ : Field)]) 0 []).1.length), Iv ((Z8 (([] ++ [(⟨1, (Zr x.epoch).1⟩ : Field)]) ++ [(⟨2, (Zn ((Zbu x.entry).1))⟩ : Field)]) 0 []).2)]) rfl (by kernel_rfl) rfl rfl (by decide) (by simp [Za9, Zaq]) ⟨⟨rfl, rfl, rfl, by first | omega | exact Nat.le_refl _ | exact Nat.zero_le _ | (dsimp only; omega), by first | omega | exact Nat.le_refl _ | exact Nat.zero_le _ | (dsimp only; omega)⟩, rfl, trivial⟩
  refine Zq ((Za3 (G := G) x.epoch 1 900000000).res (congrArg Value.bool (Zap (by omega)))) (vals := [Iv x.epoch, Iv 1, Iv 900000000]) (res' := .bool false) rfl rfl rfl rfl rfl rfl ?_
  refine Zha (vx := .bool false) rfl rfl (.bool true) rfl Zd0 ?_
  refine Zo rfl rfl (.bool true) rfl (Za (Zb (Zz rfl (Zf (Zg (Zc rfl rfl (.slice none 0 0) rfl (Zc rfl rfl (Iv 60) rfl (Za (Zb ?_)))))))))
  refine Zb4 (Zbz.nilTmp (i := 2) (b := 2) true 1 rfl (by decide) rfl) ?_
  refine Zt (Z3 (Zu ?_))
  rw [show Zci x = ([], 60) from if_neg (fun q => by have q1 := q.1; have q2 := q.2.1; first | omega | (have := Zvg q.2.2; omega))]
  exact Za7 [2] (v := .tuple #[slv 2 0 0 0, Iv 60]) rfl (by kernel_rfl) rfl rfl (by decide) (by simp [Za9, Zaq]) ⟨⟨rfl, rfl, rfl, by first | omega | exact Nat.le_refl _ | exact Nat.zero_le _ | (dsimp only; omega), by first | omega | exact Nat.le_refl _ | exact Nat.zero_le _ | (dsimp only; omega)⟩, rfl, trivial⟩
  refine Zq ((Za3 (G := G) x.epoch 1 900000000).res (congrArg Value.bool (Zap (by omega)))) (vals := [Iv x.epoch, Iv 1, Iv 900000000]) (res' := .bool false) rfl rfl rfl rfl rfl rfl ?_
  refine Zha (vx := .bool false) rfl rfl (.bool true) rfl Zd0 ?_
  refine Zo rfl rfl (.bool true) rfl (Za (Zb (Zz rfl (Zf (Zg (Zc rfl rfl (.slice none 0 0) rfl (Zc rfl rfl (Iv 60) rfl (Za (Zb ?_)))))))))
  refine Zb4 (Zbz.nilTmp (i := 2) (b := 2) true 1 rfl (by decide) rfl) ?_
  refine Zt (Z3 (Zu ?_))
  rw [show Zci x = ([], 60) from if_neg (fun q => by have q1 := q.1; have q2 := q.2.1; first | omega | (have := Zvg q.2.2; omega))]
  exact Za7 [2] (v := .tuple #[slv 2 0 0 0, Iv 60]) rfl (by kernel_rfl) rfl rfl (by decide) (by simp [Za9, Zaq]) ⟨⟨rfl, rfl, rfl, by first | omega | exact Nat.le_refl _ | exact Nat.zero_le _ | (dsimp only; omega), by first | omega | exact Nat.le_refl _ | exact Nat.zero_le _ | (dsimp only; omega)⟩, rfl, trivial⟩
theorem Zwn (kk : Nat → BitVec 32) (hG : G 0 = some (Zac w32 64 kk)) (s : ByteArray) (hs : s.size ≤ 1000000) : Zae Tryd.prog G 33 [.string s] [] (dgV (lfT kk s)) [] := by
  refine Zbj (fn := Tryd.f33) (nt := 6) rfl rfl rfl rfl ?_
  refine Zaj 2 (H' := [hole, hole]) rfl ?_
  refine Zf (Zg ?_)
  refine Z7 (b := dgB dz) (nid := 0) (H' := [dgB dz, hole]) rfl rfl (by kernel_rfl) (by kernel_rfl) ?_
  refine Za (Zb (Zf (Zg (Ze rfl rfl (.string s) rfl ?_))))
  refine Zda (vs := [(0, .string Zjj), (1, .string s)]) (v := slv 1 0 2 2) (blk := txB [Zjj, s]) (nid := 1) (H' := [dgB dz, txB [Zjj, s]]) rfl rfl rfl (by kernel_rfl) (by kernel_rfl) ?_
  refine Z4 (e := [some (1, 0)]) (nid := 0) (Zru (G := G) kk hG [Zjj, s] 2 (by simp) (by intro x hx; simp at hx; rcases hx with rfl | rfl <;> first | omega | (show 1 ≤ _; omega))) (vals := [slv 1 0 2 2]) (v := dgV (Zbi kk (Zbg [Zjj, s]))) (H' := [dgB dz, txB [Zjj, s]]) rfl rfl rfl rfl rfl rfl rfl ⟨⟨⟨rfl, rfl, rfl, by first | omega | exact Nat.le_refl _, by first | omega | exact Nat.le_refl _⟩, trivial⟩, ⟨(Zoy rfl), trivial⟩, rfl, rfl, rfl⟩ (by kernel_rfl) (by kernel_rfl) ?_
  refine Zx (p := pt 0 0) (v := dgV (Zbi kk (Zbg [Zjj, s]))) (b := 0) (blk := dgB (Zbi kk (Zbg [Zjj, s]))) (H' := [dgB (Zbi kk (Zbg [Zjj, s])), txB [Zjj, s]]) rfl rfl rfl (by kernel_rfl) (by kernel_rfl) ?_
  refine Za (Zb (Zt (Zu ?_)))
  exact Zm (v := dgV (Zbi kk (Zbg [Zjj, s]))) (by kernel_rfl) rfl rfl (by kernel_rfl) (Zcr (Zb0 fun _ => rfl) rfl)
theorem Zok (kk : Nat → BitVec 32) (hG : G 0 = some (Zac w32 64 kk)) (x : Item) : Zae Tryd.prog G 18 [Za1 x] [] (.tuple #[dgV (Z1 kk x).1, Iv (Z1 kk x).2]) [] := by
 refine Zbj (fn := Tryd.f18) (nt := 18) rfl rfl rfl rfl ?_
 refine Zaj 3 (H' := [hole, hole, hole]) rfl ?_
 refine Zf (Zg ?_)
 refine Zbr (v := Za1 x) (b := bxB 110 (Zh x)) (nid := 0) (H' := [bxB 110 (Zh x), hole, hole]) rfl rfl rfl (by kernel_rfl) (by kernel_rfl) ?_
 refine Z7 (b := dgB dz) (nid := 1) (H' := [bxB 110 (Zh x), dgB dz, hole]) rfl rfl (by kernel_rfl) (by kernel_rfl) ?_
 refine Zc rfl rfl (Iv 0) rfl (Za (Zb (Zf (Zg ?_))))
 refine Zl (p := pt 0 0) (v := Za1 x) rfl rfl rfl (by kernel_rfl) ?_
 refine Z4 (e := []) (nid := 2) (Zvs (G := G) x) (vals := [Za1 x]) (v := .tuple #[slv 2 0 ((Zci x).1.length) ((Zci x).1.length), Iv ((Zci x).2)]) (H' := [bxB 110 (Zh x), dgB dz, Zaq ((Zci x).1)]) rfl rfl rfl rfl rfl rfl rfl ⟨⟨rfl, trivial⟩, trivial, rfl, rfl, rfl⟩ (by kernel_rfl) (by kernel_rfl) ?_
 refine Ze rfl rfl (.tuple #[slv 2 0 ((Zci x).1.length) ((Zci x).1.length), Iv ((Zci x).2)]) rfl (Zp (vs := #[slv 2 0 ((Zci x).1.length) ((Zci x).1.length), Iv ((Zci x).2)]) (v := slv 2 0 ((Zci x).1.length) ((Zci x).1.length)) rfl rfl rfl rfl (Zp (vs := #[slv 2 0 ((Zci x).1.length) ((Zci x).1.length), Iv ((Zci x).2)]) (v := Iv ((Zci x).2)) rfl rfl rfl rfl (Zc rfl rfl (slv 2 0 ((Zci x).1.length) ((Zci x).1.length)) rfl (Zc rfl rfl (Iv ((Zci x).2)) rfl (Za (Zb (Zf (Zf (Zg (Ze rfl rfl (Iv ((Zci x).2)) rfl ?_))))))))))
 by_cases h1 : ((Zci x).2) ≠ 0
 refine Zk (vx := Iv ((Zci x).2)) (vy := Iv 0) rfl rfl (.bool true) rfl rfl (Zdg (by omega)) ?_
 refine Za (Zb (Zz rfl (Zf (Zg ?_))))
 refine Zbn (vs := []) (v := dgV dz) rfl rfl rfl (by kernel_rfl) ?_
 refine Ze rfl rfl (Iv ((Zci x).2)) rfl ?_
 refine Zx (p := pt 1 0) (v := dgV dz) (b := 1) (blk := dgB dz) (H' := [bxB 110 (Zh x), dgB dz, Zaq ((Zci x).1)]) rfl rfl rfl (by kernel_rfl) (by kernel_rfl) ?_
 refine Zc rfl rfl (Iv ((Zci x).2)) rfl (Za (Zb (Zt (Z3 (Zu ?_)))))
 rw [show Z1 kk x = (dz, (Zci x).2) from by rw [Z4q (by omega)]; exact if_neg (fun q => by have := Z08 q; omega)]
 exact Zm (v := .tuple #[dgV dz, Iv ((Zci x).2)]) (by kernel_rfl) rfl rfl (by kernel_rfl) ⟨(Zcr (Zb0 fun _ => rfl) rfl), rfl, trivial⟩
 refine Zk (vx := Iv ((Zci x).2)) (vy := Iv 0) rfl rfl (.bool false) rfl rfl (Zc5 (by omega)) ?_
 refine Za (Zb (Zv rfl (Z2 (Zb (Zf (Zg (Ze rfl rfl (slv 2 0 ((Zci x).1.length) ((Zci x).1.length)) rfl ?_)))))))
 refine Zfm (p := slv 2 0 ((Zci x).1.length) ((Zci x).1.length)) (v := .string (Zn ((Zci x).1))) rfl rfl rfl (Zfl rfl rfl rfl rfl rfl (by omega)) ?_
 refine Zq (Zwn (G := G) kk hG (Zn ((Zci x).1)) (by rw [Zay]; have := Z06 x; omega)) (vals := [.string (Zn ((Zci x).1))]) (res' := dgV (lfT kk (Zn ((Zci x).1)))) rfl rfl rfl rfl rfl (by kernel_rfl) ?_
 refine Zx (p := pt 1 0) (v := dgV (lfT kk (Zn ((Zci x).1)))) (b := 1) (blk := dgB (lfT kk (Zn ((Zci x).1)))) (H' := [bxB 110 (Zh x), dgB (lfT kk (Zn ((Zci x).1))), Zaq ((Zci x).1)]) rfl rfl rfl (by kernel_rfl) (by kernel_rfl) ?_
 refine Zc rfl rfl (Iv 0) rfl (Za (Zb (Zt (Zu ?_))))
 rw [show Z1 kk x = (lfT kk (Zn (Zci x).1), 0) from if_pos (Z46 (by omega))]
 exact Zm (v := .tuple #[dgV (lfT kk (Zn ((Zci x).1))), Iv 0]) (by kernel_rfl) rfl rfl (by kernel_rfl) ⟨(Zcr (Zb0 fun _ => rfl) rfl), rfl, trivial⟩
end Go.Flat
