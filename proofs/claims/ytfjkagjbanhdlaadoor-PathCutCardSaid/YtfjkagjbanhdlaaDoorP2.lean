/- Walks. -/
import Derived.Test.YtfjkagjbanhdlaaDoorP1
set_option linter.unusedVariables false
set_option linter.unusedSimpArgs false
set_option maxRecDepth 20000
namespace Go.Flat
open Go.Proofs
variable {G : Glob}
def Zjw : ByteArray := ⟨#[0]⟩
theorem Zrt (s : Signed) : (Zaf s).1.length ≤ 1000 := by
 by_cases hm : Zkd s
 ·rw [Zrv hm]
  have := Zhn (Zgt 0 (Znb s)) 0 []
  have h1 := Zbh s.node
  have h2 := Zwd s.head
  simp only [Znb, Zgt, Zoc, Za6, Zfw, List.length_nil] at this
  show (Z4 (Zgt 0 (Znb s)) 0 []).1.length ≤ 1000
  simp only [Znb, Zgt]
  omega
 ·rw [Zru hm]; exact Nat.zero_le _
def Znq (e : Entry) : List Field := if e.kind = 1 then [⟨1, (Zo e.kind).1⟩, ⟨2, (Zo e.client).1⟩, ⟨3, (Zo e.seq).1⟩, ⟨4, e.text⟩] else if e.kind = 2 then [⟨1, (Zo e.kind).1⟩, ⟨5, Zk (Zaf e.head).1⟩] else [⟨1, (Zo e.kind).1⟩, ⟨6, Zk (Zch e.claim).1⟩]
theorem Zqg {e : Entry} (h : Zf1 e) : 1 ≤ e.kind ∧ e.kind ≤ 3 := by
 rcases h with q | q | q <;> have := q.1 <;> omega
theorem Zlx {e : Entry} (h : Zf1 e) (hk : e.kind = 1) : (1 ≤ e.client ∧ e.client ≤ 3) ∧ (1 ≤ e.seq ∧ e.seq ≤ 1000000) ∧ e.text.size ≤ 200 := by
 rcases h with q | q | q
 ·exact ⟨⟨q.2.1, q.2.2.1⟩, ⟨q.2.2.2.1, q.2.2.2.2.1⟩, q.2.2.2.2.2.1⟩
 ·have := q.1; omega
 ·have := q.1; omega
theorem Z6a (a b : Field) (ha : 0 < a.tag) (hab : a.tag < b.tag) (hb : b.tag ≤ 255) (h1 : a.data.size ≤ 65536) (h2 : b.data.size ≤ 65536) : (Z4 [a, b] 0 []).2 = 0 := by
 have ea : Zfi a 0 = 0 := by unfold Zfi; rw [if_neg (by omega), if_neg (by omega), if_neg (by omega)]
 have eb : Zfi b a.tag = 0 := by unfold Zfi; rw [if_neg (by omega), if_neg (by omega), if_neg (by omega)]
 rw [Z4, if_pos ea, Z4, if_pos eb, Z4]
theorem Zsq {e : Entry} (h : Zf1 e) : (Z4 (Znq e) 0 []).2 = 0 := by
 have hk := Zqg h
 have n1 := Zbh e.kind
 unfold Znq
 split
 ·rename_i h1
  have hu := Zlx h h1
  have n2 := Zbh e.client
  have n3 := Zbh e.seq
  have h := Zn0 [(Zo e.kind).1, (Zo e.client).1, (Zo e.seq).1, e.text] 0 [] (by simp) (by
   intro x hx
   simp only [List.mem_cons, List.not_mem_nil, or_false] at hx
   rcases hx with rfl | rfl | rfl | rfl <;> omega)
  show (Z4 (Zgt 0 [(Zo e.kind).1, (Zo e.client).1, (Zo e.seq).1, e.text]) ((0 : Nat) : Int) []).2 = 0
  rw [h]
 ·split
  ·exact Z6a _ _ (by show (0 : Int) < 1; decide) (by show (1 : Int) < 5; decide) (by show (5 : Int) ≤ 255; decide) (by show (Zo e.kind).1.size ≤ 65536; omega) (by show (Zk (Zaf e.head).1).size ≤ 65536; rw [Za6]; have := Zrt e.head; omega)
  ·exact Z6a _ _ (by show (0 : Int) < 1; decide) (by show (1 : Int) < 6; decide) (by show (6 : Int) ≤ 255; decide) (by show (Zo e.kind).1.size ≤ 65536; omega) (by show (Zk (Zch e.claim).1).size ≤ 65536; rw [Za6]; have := Zu2 e.claim; omega)
def Zbw (e : Entry) : Bs × Int := if Zf1 e then ((Z4 (Znq e) 0 []).1, 0) else ([], 60)
theorem Zw7 {e : Entry} (h : Zf1 e) : (Zbw e).2 = 0 := by rw [show Zbw e = _ from if_pos h]
theorem Z6e {e : Entry} (h : (Zbw e).2 = 0) : Zf1 e := by
 refine Decidable.byContradiction fun q => ?_
 rw [show Zbw e = ([], 60) from if_neg q] at h; exact absurd h (by decide)
theorem Zu3 (e : Entry) : (Zbw e).1.length ≤ 2000 := by
 by_cases h : Zf1 e
 ·rw [show Zbw e = _ from if_pos h]
  show (Z4 (Znq e) 0 []).1.length ≤ 2000
  have h1 := Zhn (Znq e) 0 []
  have n1 := Zbh e.kind
  have n2 := Zbh e.client
  have n3 := Zbh e.seq
  have n4 := Zrt e.head
  have n5 := Zu2 e.claim
  have h2 : Zoc (Znq e) ≤ 2000 := by
   unfold Znq
   split
   ·have := (Zlx h (by assumption)).2.2
    simp only [Zoc]; omega
   ·split
    ·simp only [Zoc, Za6]; omega
    ·simp only [Zoc, Za6]; omega
  simp only [List.length_nil] at h1
  omega
 ·rw [show Zbw e = ([], 60) from if_neg h]; exact Nat.zero_le _
def Zpv (x : Item) : List Field := [⟨1, (Zo x.epoch).1⟩, ⟨2, Zk (Zbw x.entry).1⟩]
theorem Z1o (x : Item) : (Z4 (Zpv x) 0 []).2 = 0 := by
 have n1 := Zbh x.epoch
 have n2 := Zu3 x.entry
 exact Z6a _ _ (by show (0 : Int) < 1; decide) (by show (1 : Int) < 2; decide) (by show (2 : Int) ≤ 255; decide) (by show (Zo x.epoch).1.size ≤ 65536; omega) (by show (Zk (Zbw x.entry).1).size ≤ 65536; rw [Za6]; omega)
def Zcl (x : Item) : Bs × Int := if Zd1 x then ((Z4 (Zpv x) 0 []).1, 0) else ([], 60)
theorem Z2k {x : Item} (h : Zd1 x) : (Zcl x).2 = 0 := by rw [show Zcl x = _ from if_pos h]
theorem Z6f {x : Item} (h : (Zcl x).2 = 0) : Zd1 x := by
 refine Decidable.byContradiction fun q => ?_
 rw [show Zcl x = ([], 60) from if_neg q] at h; exact absurd h (by decide)
theorem Z6g {x : Item} (h : (Zcl x).2 ≠ 0) : (Zcl x).2 = 60 := by
 by_cases q : Zd1 x
 ·exact absurd (Z2k q) h
 ·rw [show Zcl x = ([], 60) from if_neg q]
theorem Z2l (x : Item) : (Zcl x).1.length ≤ 2100 := by
 unfold Zcl
 split
 ·have h1 := Zhn (Zpv x) 0 []
  have n1 := Zbh x.epoch
  have n2 := Zu3 x.entry
  simp only [Zpv, Zoc, Za6, List.length_nil] at h1
  show (Z4 (Zpv x) 0 []).1.length ≤ 2100
  simp only [Zpv]; omega
 ·exact Nat.zero_le _
def lfT (kk : Nat → BitVec 32) (s : ByteArray) : D := Zcx kk (Zby [Zjw, s])
def Zap (kk : Nat → BitVec 32) (x : Item) : D × Int := if Zd1 x then (lfT kk (Zk (Zcl x).1), 0) else (dz, 60)
theorem Z3i (e : Entry) : Z9 Tryd.prog G 50 [Zcy e] [] (.tuple #[slv 0 0 (Zbw e).1.length (Zbw e).1.length, Iv (Zbw e).2]) [Zar (Zbw e).1] := by
  refine Zbu (fn := Tryd.f50) (nt := 57) rfl rfl rfl rfl ?_
  refine Zaj 5 (H' := [hole, hole, hole, hole, hole]) rfl ?_
  refine Ze (Zf (Zci (v := Zcy e) (b := bxB 109 (Zc1 e)) (nid := 0) (H' := [bxB 109 (Zc1 e), hole, hole, hole, hole]) (Zb (.slice none 0 0) (Zb (Iv 0) (Za (Zc (Ze (Ze (Zf (Zn (p := pt 0 0) (v := Zcy e) ?_))))))))))
  refine Zp (Zod (G := G) e) (vals := [Zcy e]) (res' := Iv (Ze0 e)) rfl rfl rfl rfl rfl rfl ?_
  refine Zb (Iv (Ze0 e)) (Za (Zc (Ze (Zf (Zd (Iv (Ze0 e)) ?_)))))
  by_cases h1 : (Ze0 e) ≠ 0
  refine Zj (vx := Iv (Ze0 e)) (vy := Iv 0) rfl rfl (.bool true) rfl rfl (Zek (by omega)) ?_
  refine Za (Zc (Zv rfl (Ze (Zf (Zd (Iv (Ze0 e)) (Zb (.slice none 0 0) (Zb (Iv (Ze0 e)) (Za (Zc ?_)))))))))
  refine Zb5 (Zbo.nilTmp (i := 2) (b := 1) true 1 rfl (by decide) rfl) ?_
  refine Zs (Zaa (Zu ?_))
  rw [show Zbw e = ([], Ze0 e) from by rw [show Ze0 e = 60 from if_neg (Zj4 (by omega))]; exact if_neg (Zj4 (by omega))]
  exact Zbb [1] (v := .tuple #[slv 1 0 0 0, Iv (Ze0 e)]) rfl (by kernel_rfl) rfl rfl (by decide) (by simp [Zbe, Zar]) ⟨⟨rfl, rfl, rfl, by first | omega | exact Nat.le_refl _ | exact Nat.zero_le _ | (dsimp only; omega), by first | omega | exact Nat.le_refl _ | exact Nat.zero_le _ | (dsimp only; omega)⟩, rfl, trivial⟩
  refine Zj (vx := Iv (Ze0 e)) (vy := Iv 0) rfl rfl (.bool false) rfl rfl (Zd6 (by omega)) ?_
  refine Za (Zc (Zt rfl (Z0 (Zc (Ze (Zf (Zai (b := rfB (.slice none 0 0)) (nid := 1) (H' := [bxB 109 (Zc1 e), rfB (.slice none 0 0), hole, hole, hole]) (Za (Zc (Ze ?_))))))))))
  have hr := Ztx (e := e) (by omega)
  have hk := Zqg hr
  refine Zb5 (Zbo.nilCell (k := 1) (j := 0) (b := 2) true 2 rfl (by decide) rfl (by show 0 < 1; decide) rfl rfl) ?_
  refine Zf (Zi (b := 0) (o := 0) (n := 0) (o' := 0) (Zn (p := pt 0 0) (v := Iv e.kind) ?_))
  refine Zc2 (e := [some (1, 0), some (2, 0)]) (nid := 0) (Zmi (G := G) [] 0 1 e.kind rfl (by omega) (by omega) (by omega)) (vals := [pt 1 0, Iv 1, Iv e.kind]) (v := .tuple #[]) (H' := [bxB 109 (Zc1 e), rfB (slv 2 0 1 1), rwB cFd ([] ++ [(⟨1, (Zo e.kind).1⟩ : Field)]), hole, hole]) rfl rfl rfl rfl rfl rfl ⟨⟨⟨rfl, rfl⟩, rfl, rfl, trivial⟩, ⟨(Zaw rfl rfl rfl rfl), (Zaw rfl rfl rfl rfl), trivial⟩, rfl, rfl, rfl, Nat.le_refl _⟩ (by kernel_rfl) rfl (by kernel_rfl) ?_
  refine Za (Zc (Ze (Ze (Zf (Zi (b := 0) (o := 0) (n := 0) (o' := 0) (Zn (p := pt 0 0) (v := Iv e.kind) (Za (Zc (Z5 (Ze (Zf ?_)))))))))))
  by_cases h2 : e.kind = 1
  refine Zj (vx := Iv e.kind) (vy := Iv 1) rfl rfl (.bool true) rfl rfl (Zeb (by omega)) ?_
  refine Zb (.bool true) (Za (Zc (Zv rfl (Ze ?_))))
  have hu := Zlx hr (by omega)
  refine Zf (Zi (b := 0) (o := 0) (n := 1) (o' := 1) (Zn (p := pt 0 1) (v := Iv e.client) ?_))
  refine Zc2 (e := [some (1, 0), some (2, 0)]) (nid := 0) (Zmi (G := G) ([] ++ [(⟨1, (Zo e.kind).1⟩ : Field)]) 1 2 e.client rfl (by omega) (by omega) (by omega)) (vals := [pt 1 0, Iv 2, Iv e.client]) (v := .tuple #[]) (H' := [bxB 109 (Zc1 e), rfB (slv 2 0 2 2), rwB cFd (([] ++ [(⟨1, (Zo e.kind).1⟩ : Field)]) ++ [(⟨2, (Zo e.client).1⟩ : Field)]), hole, hole]) rfl rfl rfl rfl rfl rfl ⟨⟨⟨rfl, rfl⟩, rfl, rfl, trivial⟩, ⟨(Zaw rfl rfl rfl rfl), (Zaw rfl rfl rfl rfl), trivial⟩, rfl, rfl, rfl, Nat.le_refl _⟩ (by kernel_rfl) rfl (by kernel_rfl) ?_
  refine Za (Zc (Ze (Zf (Zi (b := 0) (o := 0) (n := 2) (o' := 2) (Zn (p := pt 0 2) (v := Iv e.seq) ?_)))))
  refine Zc2 (e := [some (1, 0), some (2, 0)]) (nid := 0) (Zmi (G := G) (([] ++ [(⟨1, (Zo e.kind).1⟩ : Field)]) ++ [(⟨2, (Zo e.client).1⟩ : Field)]) 2 3 e.seq rfl (by omega) (by omega) (by omega)) (vals := [pt 1 0, Iv 3, Iv e.seq]) (v := .tuple #[]) (H' := [bxB 109 (Zc1 e), rfB (slv 2 0 3 3), rwB cFd ((([] ++ [(⟨1, (Zo e.kind).1⟩ : Field)]) ++ [(⟨2, (Zo e.client).1⟩ : Field)]) ++ [(⟨3, (Zo e.seq).1⟩ : Field)]), hole, hole]) rfl rfl rfl rfl rfl rfl ⟨⟨⟨rfl, rfl⟩, rfl, rfl, trivial⟩, ⟨(Zaw rfl rfl rfl rfl), (Zaw rfl rfl rfl rfl), trivial⟩, rfl, rfl, rfl, Nat.le_refl _⟩ (by kernel_rfl) rfl (by kernel_rfl) ?_
  refine Za (Zc (Zf (Zi (b := 0) (o := 0) (n := 3) (o' := 3) (Zn (p := pt 0 3) (v := .string e.text) ?_))))
  refine Zc2 (e := [some (1, 0), some (2, 0)]) (nid := 0) (Zkx (G := G) ((([] ++ [(⟨1, (Zo e.kind).1⟩ : Field)]) ++ [(⟨2, (Zo e.client).1⟩ : Field)]) ++ [(⟨3, (Zo e.seq).1⟩ : Field)]) 3 4 e.text rfl (by omega)) (vals := [pt 1 0, Iv 4, .string e.text]) (v := .tuple #[]) (H' := [bxB 109 (Zc1 e), rfB (slv 2 0 4 4), rwB cFd (((([] ++ [(⟨1, (Zo e.kind).1⟩ : Field)]) ++ [(⟨2, (Zo e.client).1⟩ : Field)]) ++ [(⟨3, (Zo e.seq).1⟩ : Field)]) ++ [(⟨4, e.text⟩ : Field)]), hole, hole]) rfl rfl rfl rfl rfl rfl ⟨⟨⟨rfl, rfl⟩, rfl, rfl, trivial⟩, ⟨(Zaw rfl rfl rfl rfl), (Zaw rfl rfl rfl rfl), trivial⟩, rfl, rfl, rfl, Nat.le_refl _⟩ (by kernel_rfl) rfl (by kernel_rfl) ?_
  refine Za (Zz (Zc (Ze (Zf ?_))))
  refine Zal (p := pt 1 0) (v := slv 2 0 4 4) rfl rfl rfl rfl ?_
  refine Zab (e := [some (2, 0)]) (nid := 3) (Zgn (G := G) (((([] ++ [(⟨1, (Zo e.kind).1⟩ : Field)]) ++ [(⟨2, (Zo e.client).1⟩ : Field)]) ++ [(⟨3, (Zo e.seq).1⟩ : Field)]) ++ [(⟨4, e.text⟩ : Field)]) 4 4 rfl (by omega) (by omega)) (vals := [slv 2 0 4 4]) (v := .tuple #[slv 3 0 ((Z4 (((([] ++ [(⟨1, (Zo e.kind).1⟩ : Field)]) ++ [(⟨2, (Zo e.client).1⟩ : Field)]) ++ [(⟨3, (Zo e.seq).1⟩ : Field)]) ++ [(⟨4, e.text⟩ : Field)]) 0 []).1.length) ((Z4 (((([] ++ [(⟨1, (Zo e.kind).1⟩ : Field)]) ++ [(⟨2, (Zo e.client).1⟩ : Field)]) ++ [(⟨3, (Zo e.seq).1⟩ : Field)]) ++ [(⟨4, e.text⟩ : Field)]) 0 []).1.length), Iv ((Z4 (((([] ++ [(⟨1, (Zo e.kind).1⟩ : Field)]) ++ [(⟨2, (Zo e.client).1⟩ : Field)]) ++ [(⟨3, (Zo e.seq).1⟩ : Field)]) ++ [(⟨4, e.text⟩ : Field)]) 0 []).2)]) (H' := [bxB 109 (Zc1 e), rfB (slv 2 0 4 4), rwB cFd (((([] ++ [(⟨1, (Zo e.kind).1⟩ : Field)]) ++ [(⟨2, (Zo e.client).1⟩ : Field)]) ++ [(⟨3, (Zo e.seq).1⟩ : Field)]) ++ [(⟨4, e.text⟩ : Field)]), Zar ((Z4 (((([] ++ [(⟨1, (Zo e.kind).1⟩ : Field)]) ++ [(⟨2, (Zo e.client).1⟩ : Field)]) ++ [(⟨3, (Zo e.seq).1⟩ : Field)]) ++ [(⟨4, e.text⟩ : Field)]) 0 []).1), hole]) rfl rfl rfl rfl rfl rfl rfl ⟨⟨⟨rfl, rfl, rfl, by first | omega | exact Nat.le_refl _, by first | omega | exact Nat.le_refl _⟩, trivial⟩, ⟨(Zg2 rfl), trivial⟩, rfl, rfl, rfl⟩ (by kernel_rfl) (by kernel_rfl) ?_
  refine Zq (vs := #[slv 3 0 ((Z4 (((([] ++ [(⟨1, (Zo e.kind).1⟩ : Field)]) ++ [(⟨2, (Zo e.client).1⟩ : Field)]) ++ [(⟨3, (Zo e.seq).1⟩ : Field)]) ++ [(⟨4, e.text⟩ : Field)]) 0 []).1.length) ((Z4 (((([] ++ [(⟨1, (Zo e.kind).1⟩ : Field)]) ++ [(⟨2, (Zo e.client).1⟩ : Field)]) ++ [(⟨3, (Zo e.seq).1⟩ : Field)]) ++ [(⟨4, e.text⟩ : Field)]) 0 []).1.length), Iv ((Z4 (((([] ++ [(⟨1, (Zo e.kind).1⟩ : Field)]) ++ [(⟨2, (Zo e.client).1⟩ : Field)]) ++ [(⟨3, (Zo e.seq).1⟩ : Field)]) ++ [(⟨4, e.text⟩ : Field)]) 0 []).2)]) (v := slv 3 0 ((Z4 (((([] ++ [(⟨1, (Zo e.kind).1⟩ : Field)]) ++ [(⟨2, (Zo e.client).1⟩ : Field)]) ++ [(⟨3, (Zo e.seq).1⟩ : Field)]) ++ [(⟨4, e.text⟩ : Field)]) 0 []).1.length) ((Z4 (((([] ++ [(⟨1, (Zo e.kind).1⟩ : Field)]) ++ [(⟨2, (Zo e.client).1⟩ : Field)]) ++ [(⟨3, (Zo e.seq).1⟩ : Field)]) ++ [(⟨4, e.text⟩ : Field)]) 0 []).1.length)) (Zq (vs := #[slv 3 0 ((Z4 (((([] ++ [(⟨1, (Zo e.kind).1⟩ : Field)]) ++ [(⟨2, (Zo e.client).1⟩ : Field)]) ++ [(⟨3, (Zo e.seq).1⟩ : Field)]) ++ [(⟨4, e.text⟩ : Field)]) 0 []).1.length) ((Z4 (((([] ++ [(⟨1, (Zo e.kind).1⟩ : Field)]) ++ [(⟨2, (Zo e.client).1⟩ : Field)]) ++ [(⟨3, (Zo e.seq).1⟩ : Field)]) ++ [(⟨4, e.text⟩ : Field)]) 0 []).1.length), Iv ((Z4 (((([] ++ [(⟨1, (Zo e.kind).1⟩ : Field)]) ++ [(⟨2, (Zo e.client).1⟩ : Field)]) ++ [(⟨3, (Zo e.seq).1⟩ : Field)]) ++ [(⟨4, e.text⟩ : Field)]) 0 []).2)]) (v := Iv ((Z4 (((([] ++ [(⟨1, (Zo e.kind).1⟩ : Field)]) ++ [(⟨2, (Zo e.client).1⟩ : Field)]) ++ [(⟨3, (Zo e.seq).1⟩ : Field)]) ++ [(⟨4, e.text⟩ : Field)]) 0 []).2)) (Zb (slv 3 0 ((Z4 (((([] ++ [(⟨1, (Zo e.kind).1⟩ : Field)]) ++ [(⟨2, (Zo e.client).1⟩ : Field)]) ++ [(⟨3, (Zo e.seq).1⟩ : Field)]) ++ [(⟨4, e.text⟩ : Field)]) 0 []).1.length) ((Z4 (((([] ++ [(⟨1, (Zo e.kind).1⟩ : Field)]) ++ [(⟨2, (Zo e.client).1⟩ : Field)]) ++ [(⟨3, (Zo e.seq).1⟩ : Field)]) ++ [(⟨4, e.text⟩ : Field)]) 0 []).1.length)) (Zb (Iv ((Z4 (((([] ++ [(⟨1, (Zo e.kind).1⟩ : Field)]) ++ [(⟨2, (Zo e.client).1⟩ : Field)]) ++ [(⟨3, (Zo e.seq).1⟩ : Field)]) ++ [(⟨4, e.text⟩ : Field)]) 0 []).2)) (Za (Zc (Zs (Zu ?_)))))))
  have ee : (((([] ++ [(⟨1, (Zo e.kind).1⟩ : Field)]) ++ [(⟨2, (Zo e.client).1⟩ : Field)]) ++ [(⟨3, (Zo e.seq).1⟩ : Field)]) ++ [(⟨4, e.text⟩ : Field)]) = Znq e := by unfold Znq; first | (rw [if_pos (by omega)]; done) | (rw [if_pos (by omega)]; rfl) | (rw [if_neg (by omega), if_pos (by omega)]; rfl) | (rw [if_neg (by omega), if_neg (by omega)]; rfl)
  have ez := Zsq hr
  rw [← ee] at ez
  rw [show Zbw e = ((Z4 (((([] ++ [(⟨1, (Zo e.kind).1⟩ : Field)]) ++ [(⟨2, (Zo e.client).1⟩ : Field)]) ++ [(⟨3, (Zo e.seq).1⟩ : Field)]) ++ [(⟨4, e.text⟩ : Field)]) 0 []).1, (Z4 (((([] ++ [(⟨1, (Zo e.kind).1⟩ : Field)]) ++ [(⟨2, (Zo e.client).1⟩ : Field)]) ++ [(⟨3, (Zo e.seq).1⟩ : Field)]) ++ [(⟨4, e.text⟩ : Field)]) 0 []).2) from by rw [ez, ee]; exact if_pos hr]
  exact Zbb [3] (v := .tuple #[slv 3 0 ((Z4 (((([] ++ [(⟨1, (Zo e.kind).1⟩ : Field)]) ++ [(⟨2, (Zo e.client).1⟩ : Field)]) ++ [(⟨3, (Zo e.seq).1⟩ : Field)]) ++ [(⟨4, e.text⟩ : Field)]) 0 []).1.length) ((Z4 (((([] ++ [(⟨1, (Zo e.kind).1⟩ : Field)]) ++ [(⟨2, (Zo e.client).1⟩ : Field)]) ++ [(⟨3, (Zo e.seq).1⟩ : Field)]) ++ [(⟨4, e.text⟩ : Field)]) 0 []).1.length), Iv ((Z4 (((([] ++ [(⟨1, (Zo e.kind).1⟩ : Field)]) ++ [(⟨2, (Zo e.client).1⟩ : Field)]) ++ [(⟨3, (Zo e.seq).1⟩ : Field)]) ++ [(⟨4, e.text⟩ : Field)]) 0 []).2)]) rfl (by kernel_rfl) rfl rfl (by decide) (by simp [Zbe, Zar]) ⟨⟨rfl, rfl, rfl, by first | omega | exact Nat.le_refl _ | exact Nat.zero_le _ | (dsimp only; omega), by first | omega | exact Nat.le_refl _ | exact Nat.zero_le _ | (dsimp only; omega)⟩, rfl, trivial⟩
  refine Zj (vx := Iv e.kind) (vy := Iv 1) rfl rfl (.bool false) rfl rfl (Zgm (by omega)) ?_
  refine Zb (.bool false) (Za (Zc (Zt rfl (Ze (Zf ?_)))))
  by_cases h3 : e.kind = 2
  refine Zj (vx := Iv e.kind) (vy := Iv 2) rfl rfl (.bool true) rfl rfl (Zeb (by omega)) ?_
  refine Zb (.bool true) (Za (Zc (Zv rfl (Ze (Zf (Zi (b := 0) (o := 0) (n := 4) (o' := 4) (Zn (p := pt 0 4) (v := Zw e.head) ?_)))))))
  refine Zab (e := []) (nid := 3) (Zl4 (G := G) e.head) (vals := [Zw e.head]) (v := .tuple #[slv 3 0 ((Zaf e.head).1.length) ((Zaf e.head).1.length), Iv ((Zaf e.head).2)]) (H' := [bxB 109 (Zc1 e), rfB (slv 2 0 1 1), rwB cFd ([] ++ [(⟨1, (Zo e.kind).1⟩ : Field)]), Zar ((Zaf e.head).1), hole]) rfl rfl rfl rfl rfl rfl rfl ⟨⟨rfl, trivial⟩, trivial, rfl, rfl, rfl⟩ (by kernel_rfl) (by kernel_rfl) ?_
  refine Zd (.tuple #[slv 3 0 ((Zaf e.head).1.length) ((Zaf e.head).1.length), Iv ((Zaf e.head).2)]) (Zq (vs := #[slv 3 0 ((Zaf e.head).1.length) ((Zaf e.head).1.length), Iv ((Zaf e.head).2)]) (v := slv 3 0 ((Zaf e.head).1.length) ((Zaf e.head).1.length)) (Zq (vs := #[slv 3 0 ((Zaf e.head).1.length) ((Zaf e.head).1.length), Iv ((Zaf e.head).2)]) (v := Iv ((Zaf e.head).2)) (Zb (slv 3 0 ((Zaf e.head).1.length) ((Zaf e.head).1.length)) (Zb (Iv ((Zaf e.head).2)) (Za (Zc (Zf (Zd (slv 3 0 ((Zaf e.head).1.length) ((Zaf e.head).1.length)) ?_))))))))
  refine Zfs (p := slv 3 0 ((Zaf e.head).1.length) ((Zaf e.head).1.length)) (v := .string (Zk ((Zaf e.head).1))) rfl rfl rfl (Zft rfl rfl rfl rfl rfl (by omega)) ?_
  refine Zc2 (e := [some (1, 0), some (2, 0)]) (nid := 0) (Zkx (G := G) ([] ++ [(⟨1, (Zo e.kind).1⟩ : Field)]) 1 5 (Zk ((Zaf e.head).1)) rfl (by omega)) (vals := [pt 1 0, Iv 5, .string (Zk ((Zaf e.head).1))]) (v := .tuple #[]) (H' := [bxB 109 (Zc1 e), rfB (slv 2 0 2 2), rwB cFd (([] ++ [(⟨1, (Zo e.kind).1⟩ : Field)]) ++ [(⟨5, (Zk ((Zaf e.head).1))⟩ : Field)]), Zar ((Zaf e.head).1), hole]) rfl rfl rfl rfl rfl rfl ⟨⟨⟨rfl, rfl⟩, rfl, rfl, trivial⟩, ⟨(Zaw rfl rfl rfl rfl), (Zaw rfl rfl rfl rfl), trivial⟩, rfl, rfl, rfl, Nat.le_refl _⟩ (by kernel_rfl) rfl (by kernel_rfl) ?_
  refine Za (Zz (Zc (Ze (Zf ?_))))
  refine Zal (p := pt 1 0) (v := slv 2 0 2 2) rfl rfl rfl rfl ?_
  refine Zab (e := [some (2, 0)]) (nid := 4) (Zgn (G := G) (([] ++ [(⟨1, (Zo e.kind).1⟩ : Field)]) ++ [(⟨5, (Zk ((Zaf e.head).1))⟩ : Field)]) 2 2 rfl (by omega) (by omega)) (vals := [slv 2 0 2 2]) (v := .tuple #[slv 4 0 ((Z4 (([] ++ [(⟨1, (Zo e.kind).1⟩ : Field)]) ++ [(⟨5, (Zk ((Zaf e.head).1))⟩ : Field)]) 0 []).1.length) ((Z4 (([] ++ [(⟨1, (Zo e.kind).1⟩ : Field)]) ++ [(⟨5, (Zk ((Zaf e.head).1))⟩ : Field)]) 0 []).1.length), Iv ((Z4 (([] ++ [(⟨1, (Zo e.kind).1⟩ : Field)]) ++ [(⟨5, (Zk ((Zaf e.head).1))⟩ : Field)]) 0 []).2)]) (H' := [bxB 109 (Zc1 e), rfB (slv 2 0 2 2), rwB cFd (([] ++ [(⟨1, (Zo e.kind).1⟩ : Field)]) ++ [(⟨5, (Zk ((Zaf e.head).1))⟩ : Field)]), Zar ((Zaf e.head).1), Zar ((Z4 (([] ++ [(⟨1, (Zo e.kind).1⟩ : Field)]) ++ [(⟨5, (Zk ((Zaf e.head).1))⟩ : Field)]) 0 []).1)]) rfl rfl rfl rfl rfl rfl rfl ⟨⟨⟨rfl, rfl, rfl, by first | omega | exact Nat.le_refl _, by first | omega | exact Nat.le_refl _⟩, trivial⟩, ⟨(Zg2 rfl), trivial⟩, rfl, rfl, rfl⟩ (by kernel_rfl) (by kernel_rfl) ?_
  refine Zq (vs := #[slv 4 0 ((Z4 (([] ++ [(⟨1, (Zo e.kind).1⟩ : Field)]) ++ [(⟨5, (Zk ((Zaf e.head).1))⟩ : Field)]) 0 []).1.length) ((Z4 (([] ++ [(⟨1, (Zo e.kind).1⟩ : Field)]) ++ [(⟨5, (Zk ((Zaf e.head).1))⟩ : Field)]) 0 []).1.length), Iv ((Z4 (([] ++ [(⟨1, (Zo e.kind).1⟩ : Field)]) ++ [(⟨5, (Zk ((Zaf e.head).1))⟩ : Field)]) 0 []).2)]) (v := slv 4 0 ((Z4 (([] ++ [(⟨1, (Zo e.kind).1⟩ : Field)]) ++ [(⟨5, (Zk ((Zaf e.head).1))⟩ : Field)]) 0 []).1.length) ((Z4 (([] ++ [(⟨1, (Zo e.kind).1⟩ : Field)]) ++ [(⟨5, (Zk ((Zaf e.head).1))⟩ : Field)]) 0 []).1.length)) (Zq (vs := #[slv 4 0 ((Z4 (([] ++ [(⟨1, (Zo e.kind).1⟩ : Field)]) ++ [(⟨5, (Zk ((Zaf e.head).1))⟩ : Field)]) 0 []).1.length) ((Z4 (([] ++ [(⟨1, (Zo e.kind).1⟩ : Field)]) ++ [(⟨5, (Zk ((Zaf e.head).1))⟩ : Field)]) 0 []).1.length), Iv ((Z4 (([] ++ [(⟨1, (Zo e.kind).1⟩ : Field)]) ++ [(⟨5, (Zk ((Zaf e.head).1))⟩ : Field)]) 0 []).2)]) (v := Iv ((Z4 (([] ++ [(⟨1, (Zo e.kind).1⟩ : Field)]) ++ [(⟨5, (Zk ((Zaf e.head).1))⟩ : Field)]) 0 []).2)) (Zb (slv 4 0 ((Z4 (([] ++ [(⟨1, (Zo e.kind).1⟩ : Field)]) ++ [(⟨5, (Zk ((Zaf e.head).1))⟩ : Field)]) 0 []).1.length) ((Z4 (([] ++ [(⟨1, (Zo e.kind).1⟩ : Field)]) ++ [(⟨5, (Zk ((Zaf e.head).1))⟩ : Field)]) 0 []).1.length)) (Zb (Iv ((Z4 (([] ++ [(⟨1, (Zo e.kind).1⟩ : Field)]) ++ [(⟨5, (Zk ((Zaf e.head).1))⟩ : Field)]) 0 []).2)) (Za (Zc (Zs (Zu ?_)))))))
  have ee : (([] ++ [(⟨1, (Zo e.kind).1⟩ : Field)]) ++ [(⟨5, (Zk ((Zaf e.head).1))⟩ : Field)]) = Znq e := by unfold Znq; first | (rw [if_pos (by omega)]; done) | (rw [if_pos (by omega)]; rfl) | (rw [if_neg (by omega), if_pos (by omega)]; rfl) | (rw [if_neg (by omega), if_neg (by omega)]; rfl)
  have ez := Zsq hr
  rw [← ee] at ez
  rw [show Zbw e = ((Z4 (([] ++ [(⟨1, (Zo e.kind).1⟩ : Field)]) ++ [(⟨5, (Zk ((Zaf e.head).1))⟩ : Field)]) 0 []).1, (Z4 (([] ++ [(⟨1, (Zo e.kind).1⟩ : Field)]) ++ [(⟨5, (Zk ((Zaf e.head).1))⟩ : Field)]) 0 []).2) from by rw [ez, ee]; exact if_pos hr]
  exact Zbb [4] (v := .tuple #[slv 4 0 ((Z4 (([] ++ [(⟨1, (Zo e.kind).1⟩ : Field)]) ++ [(⟨5, (Zk ((Zaf e.head).1))⟩ : Field)]) 0 []).1.length) ((Z4 (([] ++ [(⟨1, (Zo e.kind).1⟩ : Field)]) ++ [(⟨5, (Zk ((Zaf e.head).1))⟩ : Field)]) 0 []).1.length), Iv ((Z4 (([] ++ [(⟨1, (Zo e.kind).1⟩ : Field)]) ++ [(⟨5, (Zk ((Zaf e.head).1))⟩ : Field)]) 0 []).2)]) rfl (by kernel_rfl) rfl rfl (by decide) (by simp [Zbe, Zar]) ⟨⟨rfl, rfl, rfl, by first | omega | exact Nat.le_refl _ | exact Nat.zero_le _ | (dsimp only; omega), by first | omega | exact Nat.le_refl _ | exact Nat.zero_le _ | (dsimp only; omega)⟩, rfl, trivial⟩
  refine Zj (vx := Iv e.kind) (vy := Iv 2) rfl rfl (.bool false) rfl rfl (Zgm (by omega)) ?_
  refine Zb (.bool false) (Za (Zc (Zt rfl (Ze (Zf ?_)))))
  refine Zj (vx := Iv e.kind) (vy := Iv 3) rfl rfl (.bool true) rfl rfl (Zeb (by omega)) ?_
  refine Zb (.bool true) (Za (Zc (Zv rfl (Ze (Zf (Zi (b := 0) (o := 0) (n := 73) (o' := 73) (Zn (p := pt 0 73) (v := Zes e.claim) ?_)))))))
  refine Zab (e := []) (nid := 3) (Ztg (G := G) e.claim) (vals := [Zes e.claim]) (v := .tuple #[slv 3 0 ((Zch e.claim).1.length) ((Zch e.claim).1.length), Iv ((Zch e.claim).2)]) (H' := [bxB 109 (Zc1 e), rfB (slv 2 0 1 1), rwB cFd ([] ++ [(⟨1, (Zo e.kind).1⟩ : Field)]), Zar ((Zch e.claim).1), hole]) rfl rfl rfl rfl rfl rfl rfl ⟨⟨rfl, trivial⟩, trivial, rfl, rfl, rfl⟩ (by kernel_rfl) (by kernel_rfl) ?_
  refine Zd (.tuple #[slv 3 0 ((Zch e.claim).1.length) ((Zch e.claim).1.length), Iv ((Zch e.claim).2)]) (Zq (vs := #[slv 3 0 ((Zch e.claim).1.length) ((Zch e.claim).1.length), Iv ((Zch e.claim).2)]) (v := slv 3 0 ((Zch e.claim).1.length) ((Zch e.claim).1.length)) (Zq (vs := #[slv 3 0 ((Zch e.claim).1.length) ((Zch e.claim).1.length), Iv ((Zch e.claim).2)]) (v := Iv ((Zch e.claim).2)) (Zb (slv 3 0 ((Zch e.claim).1.length) ((Zch e.claim).1.length)) (Zb (Iv ((Zch e.claim).2)) (Za (Zc (Zf (Zd (slv 3 0 ((Zch e.claim).1.length) ((Zch e.claim).1.length)) ?_))))))))
  refine Zfs (p := slv 3 0 ((Zch e.claim).1.length) ((Zch e.claim).1.length)) (v := .string (Zk ((Zch e.claim).1))) rfl rfl rfl (Zft rfl rfl rfl rfl rfl (by omega)) ?_
  refine Zc2 (e := [some (1, 0), some (2, 0)]) (nid := 0) (Zkx (G := G) ([] ++ [(⟨1, (Zo e.kind).1⟩ : Field)]) 1 6 (Zk ((Zch e.claim).1)) rfl (by omega)) (vals := [pt 1 0, Iv 6, .string (Zk ((Zch e.claim).1))]) (v := .tuple #[]) (H' := [bxB 109 (Zc1 e), rfB (slv 2 0 2 2), rwB cFd (([] ++ [(⟨1, (Zo e.kind).1⟩ : Field)]) ++ [(⟨6, (Zk ((Zch e.claim).1))⟩ : Field)]), Zar ((Zch e.claim).1), hole]) rfl rfl rfl rfl rfl rfl ⟨⟨⟨rfl, rfl⟩, rfl, rfl, trivial⟩, ⟨(Zaw rfl rfl rfl rfl), (Zaw rfl rfl rfl rfl), trivial⟩, rfl, rfl, rfl, Nat.le_refl _⟩ (by kernel_rfl) rfl (by kernel_rfl) ?_
  refine Za (Zz (Zc (Ze (Zf ?_))))
  refine Zal (p := pt 1 0) (v := slv 2 0 2 2) rfl rfl rfl rfl ?_
  refine Zab (e := [some (2, 0)]) (nid := 4) (Zgn (G := G) (([] ++ [(⟨1, (Zo e.kind).1⟩ : Field)]) ++ [(⟨6, (Zk ((Zch e.claim).1))⟩ : Field)]) 2 2 rfl (by omega) (by omega)) (vals := [slv 2 0 2 2]) (v := .tuple #[slv 4 0 ((Z4 (([] ++ [(⟨1, (Zo e.kind).1⟩ : Field)]) ++ [(⟨6, (Zk ((Zch e.claim).1))⟩ : Field)]) 0 []).1.length) ((Z4 (([] ++ [(⟨1, (Zo e.kind).1⟩ : Field)]) ++ [(⟨6, (Zk ((Zch e.claim).1))⟩ : Field)]) 0 []).1.length), Iv ((Z4 (([] ++ [(⟨1, (Zo e.kind).1⟩ : Field)]) ++ [(⟨6, (Zk ((Zch e.claim).1))⟩ : Field)]) 0 []).2)]) (H' := [bxB 109 (Zc1 e), rfB (slv 2 0 2 2), rwB cFd (([] ++ [(⟨1, (Zo e.kind).1⟩ : Field)]) ++ [(⟨6, (Zk ((Zch e.claim).1))⟩ : Field)]), Zar ((Zch e.claim).1), Zar ((Z4 (([] ++ [(⟨1, (Zo e.kind).1⟩ : Field)]) ++ [(⟨6, (Zk ((Zch e.claim).1))⟩ : Field)]) 0 []).1)]) rfl rfl rfl rfl rfl rfl rfl ⟨⟨⟨rfl, rfl, rfl, by first | omega | exact Nat.le_refl _, by first | omega | exact Nat.le_refl _⟩, trivial⟩, ⟨(Zg2 rfl), trivial⟩, rfl, rfl, rfl⟩ (by kernel_rfl) (by kernel_rfl) ?_
  refine Zq (vs := #[slv 4 0 ((Z4 (([] ++ [(⟨1, (Zo e.kind).1⟩ : Field)]) ++ [(⟨6, (Zk ((Zch e.claim).1))⟩ : Field)]) 0 []).1.length) ((Z4 (([] ++ [(⟨1, (Zo e.kind).1⟩ : Field)]) ++ [(⟨6, (Zk ((Zch e.claim).1))⟩ : Field)]) 0 []).1.length), Iv ((Z4 (([] ++ [(⟨1, (Zo e.kind).1⟩ : Field)]) ++ [(⟨6, (Zk ((Zch e.claim).1))⟩ : Field)]) 0 []).2)]) (v := slv 4 0 ((Z4 (([] ++ [(⟨1, (Zo e.kind).1⟩ : Field)]) ++ [(⟨6, (Zk ((Zch e.claim).1))⟩ : Field)]) 0 []).1.length) ((Z4 (([] ++ [(⟨1, (Zo e.kind).1⟩ : Field)]) ++ [(⟨6, (Zk ((Zch e.claim).1))⟩ : Field)]) 0 []).1.length)) (Zq (vs := #[slv 4 0 ((Z4 (([] ++ [(⟨1, (Zo e.kind).1⟩ : Field)]) ++ [(⟨6, (Zk ((Zch e.claim).1))⟩ : Field)]) 0 []).1.length) ((Z4 (([] ++ [(⟨1, (Zo e.kind).1⟩ : Field)]) ++ [(⟨6, (Zk ((Zch e.claim).1))⟩ : Field)]) 0 []).1.length), Iv ((Z4 (([] ++ [(⟨1, (Zo e.kind).1⟩ : Field)]) ++ [(⟨6, (Zk ((Zch e.claim).1))⟩ : Field)]) 0 []).2)]) (v := Iv ((Z4 (([] ++ [(⟨1, (Zo e.kind).1⟩ : Field)]) ++ [(⟨6, (Zk ((Zch e.claim).1))⟩ : Field)]) 0 []).2)) (Zb (slv 4 0 ((Z4 (([] ++ [(⟨1, (Zo e.kind).1⟩ : Field)]) ++ [(⟨6, (Zk ((Zch e.claim).1))⟩ : Field)]) 0 []).1.length) ((Z4 (([] ++ [(⟨1, (Zo e.kind).1⟩ : Field)]) ++ [(⟨6, (Zk ((Zch e.claim).1))⟩ : Field)]) 0 []).1.length)) (Zb (Iv ((Z4 (([] ++ [(⟨1, (Zo e.kind).1⟩ : Field)]) ++ [(⟨6, (Zk ((Zch e.claim).1))⟩ : Field)]) 0 []).2)) (Za (Zc (Zs (Zu ?_)))))))
  have ee : (([] ++ [(⟨1, (Zo e.kind).1⟩ : Field)]) ++ [(⟨6, (Zk ((Zch e.claim).1))⟩ : Field)]) = Znq e := by unfold Znq; first | (rw [if_pos (by omega)]; done) | (rw [if_pos (by omega)]; rfl) | (rw [if_neg (by omega), if_pos (by omega)]; rfl) | (rw [if_neg (by omega), if_neg (by omega)]; rfl)
  have ez := Zsq hr
  rw [← ee] at ez
  rw [show Zbw e = ((Z4 (([] ++ [(⟨1, (Zo e.kind).1⟩ : Field)]) ++ [(⟨6, (Zk ((Zch e.claim).1))⟩ : Field)]) 0 []).1, (Z4 (([] ++ [(⟨1, (Zo e.kind).1⟩ : Field)]) ++ [(⟨6, (Zk ((Zch e.claim).1))⟩ : Field)]) 0 []).2) from by rw [ez, ee]; exact if_pos hr]
  exact Zbb [4] (v := .tuple #[slv 4 0 ((Z4 (([] ++ [(⟨1, (Zo e.kind).1⟩ : Field)]) ++ [(⟨6, (Zk ((Zch e.claim).1))⟩ : Field)]) 0 []).1.length) ((Z4 (([] ++ [(⟨1, (Zo e.kind).1⟩ : Field)]) ++ [(⟨6, (Zk ((Zch e.claim).1))⟩ : Field)]) 0 []).1.length), Iv ((Z4 (([] ++ [(⟨1, (Zo e.kind).1⟩ : Field)]) ++ [(⟨6, (Zk ((Zch e.claim).1))⟩ : Field)]) 0 []).2)]) rfl (by kernel_rfl) rfl rfl (by decide) (by simp [Zbe, Zar]) ⟨⟨rfl, rfl, rfl, by first | omega | exact Nat.le_refl _ | exact Nat.zero_le _ | (dsimp only; omega), by first | omega | exact Nat.le_refl _ | exact Nat.zero_le _ | (dsimp only; omega)⟩, rfl, trivial⟩
theorem Zv0 (x : Item) : Z9 Tryd.prog G 32 [Zbq x] [] (.tuple #[slv 0 0 (Zcl x).1.length (Zcl x).1.length, Iv (Zcl x).2]) [Zar (Zcl x).1] := by
  refine Zbu (fn := Tryd.f32) (nt := 31) rfl rfl rfl rfl ?_
  refine Zaj 5 (H' := [hole, hole, hole, hole, hole]) rfl ?_
  refine Ze (Zf (Zci (v := Zbq x) (b := bxB 110 (Zr x)) (nid := 0) (H' := [bxB 110 (Zr x), hole, hole, hole, hole]) (Zb (.slice none 0 0) (Zb (Iv 0) (Za (Zc (Ze (Zf (Zi (b := 0) (o := 0) (n := 1) (o' := 1) (Zn (p := pt 0 1) (v := Zcy x.entry) ?_))))))))))
  refine Zab (e := []) (nid := 1) (Z3i (G := G) x.entry) (vals := [Zcy x.entry]) (v := .tuple #[slv 1 0 ((Zbw x.entry).1.length) ((Zbw x.entry).1.length), Iv ((Zbw x.entry).2)]) (H' := [bxB 110 (Zr x), Zar ((Zbw x.entry).1), hole, hole, hole]) rfl rfl rfl rfl rfl rfl rfl ⟨⟨rfl, trivial⟩, trivial, rfl, rfl, rfl⟩ (by kernel_rfl) (by kernel_rfl) ?_
  refine Zd (.tuple #[slv 1 0 ((Zbw x.entry).1.length) ((Zbw x.entry).1.length), Iv ((Zbw x.entry).2)]) (Zq (vs := #[slv 1 0 ((Zbw x.entry).1.length) ((Zbw x.entry).1.length), Iv ((Zbw x.entry).2)]) (v := slv 1 0 ((Zbw x.entry).1.length) ((Zbw x.entry).1.length)) (Zq (vs := #[slv 1 0 ((Zbw x.entry).1.length) ((Zbw x.entry).1.length), Iv ((Zbw x.entry).2)]) (v := Iv ((Zbw x.entry).2)) (Zb (slv 1 0 ((Zbw x.entry).1.length) ((Zbw x.entry).1.length)) (Zb (Iv ((Zbw x.entry).2)) (Za (Zc (Ze (Ze (Zf (Zd (Iv ((Zbw x.entry).2)) ?_))))))))))
  by_cases h1 : ((Zbw x.entry).2) ≠ 0
  refine Zj (vx := Iv ((Zbw x.entry).2)) (vy := Iv 0) rfl rfl (.bool true) rfl rfl (Zek (by omega)) ?_
  refine Zd (.bool true) (Zg (Zg (Zg (Zg (Zl (.bool true) (Za (Zc (Zv rfl (Ze (Zf (Zb (.slice none 0 0) (Zb (Iv 60) (Za (Zc ?_))))))))))))))
  refine Zb5 (Zbo.nilTmp (i := 2) (b := 2) true 1 rfl (by decide) rfl) ?_
  refine Zs (Zaa (Zu ?_))
  rw [show Zcl x = ([], 60) from if_neg (fun q => by have q1 := q.1; have q2 := q.2.1; first | omega | (have := Zw7 q.2.2; omega))]
  exact Zbb [2] (v := .tuple #[slv 2 0 0 0, Iv 60]) rfl (by kernel_rfl) rfl rfl (by decide) (by simp [Zbe, Zar]) ⟨⟨rfl, rfl, rfl, by first | omega | exact Nat.le_refl _ | exact Nat.zero_le _ | (dsimp only; omega), by first | omega | exact Nat.le_refl _ | exact Nat.zero_le _ | (dsimp only; omega)⟩, rfl, trivial⟩
  refine Zj (vx := Iv ((Zbw x.entry).2)) (vy := Iv 0) rfl rfl (.bool false) rfl rfl (Zd6 (by omega)) ?_
  refine Zd (.bool false) (Zi (b := 0) (o := 0) (n := 0) (o' := 0) (Zn (p := pt 0 0) (v := Iv x.epoch) ?_))
  by_cases h2 : 1 ≤ x.epoch
  by_cases h3 : x.epoch ≤ 900000000
  refine Zp ((Za5 (G := G) x.epoch 1 900000000).res (congrArg Value.bool (Zb8 (by omega) (by omega)))) (vals := [Iv x.epoch, Iv 1, Iv 900000000]) (res' := .bool true) rfl rfl rfl rfl rfl rfl ?_
  refine Zi1 (vx := .bool true) rfl rfl (.bool false) rfl Zeu ?_
  refine Zl (.bool false) (Za (Zc (Zt rfl (Z0 (Zc (Ze (Zf (Zai (b := rfB (.slice none 0 0)) (nid := 2) (H' := [bxB 110 (Zr x), Zar ((Zbw x.entry).1), rfB (.slice none 0 0), hole, hole]) (Za (Zc (Ze ?_)))))))))))
  refine Zb5 (Zbo.nilCell (k := 2) (j := 0) (b := 3) true 2 rfl (by decide) rfl (by show 0 < 1; decide) rfl rfl) ?_
  refine Zf (Zi (b := 0) (o := 0) (n := 0) (o' := 0) (Zn (p := pt 0 0) (v := Iv x.epoch) ?_))
  refine Zc2 (e := [some (2, 0), some (3, 0)]) (nid := 0) (Zmi (G := G) [] 0 1 x.epoch rfl (by omega) (by omega) (by omega)) (vals := [pt 2 0, Iv 1, Iv x.epoch]) (v := .tuple #[]) (H' := [bxB 110 (Zr x), Zar ((Zbw x.entry).1), rfB (slv 3 0 1 1), rwB cFd ([] ++ [(⟨1, (Zo x.epoch).1⟩ : Field)]), hole]) rfl rfl rfl rfl rfl rfl ⟨⟨⟨rfl, rfl⟩, rfl, rfl, trivial⟩, ⟨(Zaw rfl rfl rfl rfl), (Zaw rfl rfl rfl rfl), trivial⟩, rfl, rfl, rfl, Nat.le_refl _⟩ (by kernel_rfl) rfl (by kernel_rfl) ?_
  refine Za (Zc (Ze (Zf (Zd (slv 1 0 ((Zbw x.entry).1.length) ((Zbw x.entry).1.length)) ?_))))
  refine Zfs (p := slv 1 0 ((Zbw x.entry).1.length) ((Zbw x.entry).1.length)) (v := .string (Zk ((Zbw x.entry).1))) rfl rfl rfl (Zft rfl rfl rfl rfl rfl (by omega)) ?_
  refine Zc2 (e := [some (2, 0), some (3, 0)]) (nid := 0) (Zkx (G := G) ([] ++ [(⟨1, (Zo x.epoch).1⟩ : Field)]) 1 2 (Zk ((Zbw x.entry).1)) rfl (by omega)) (vals := [pt 2 0, Iv 2, .string (Zk ((Zbw x.entry).1))]) (v := .tuple #[]) (H' := [bxB 110 (Zr x), Zar ((Zbw x.entry).1), rfB (slv 3 0 2 2), rwB cFd (([] ++ [(⟨1, (Zo x.epoch).1⟩ : Field)]) ++ [(⟨2, (Zk ((Zbw x.entry).1))⟩ : Field)]), hole]) rfl rfl rfl rfl rfl rfl ⟨⟨⟨rfl, rfl⟩, rfl, rfl, trivial⟩, ⟨(Zaw rfl rfl rfl rfl), (Zaw rfl rfl rfl rfl), trivial⟩, rfl, rfl, rfl, Nat.le_refl _⟩ (by kernel_rfl) rfl (by kernel_rfl) ?_
  refine Za (Zc (Ze (Zf ?_)))
  refine Zal (p := pt 2 0) (v := slv 3 0 2 2) rfl rfl rfl rfl ?_
  refine Zab (e := [some (3, 0)]) (nid := 4) (Zgn (G := G) (([] ++ [(⟨1, (Zo x.epoch).1⟩ : Field)]) ++ [(⟨2, (Zk ((Zbw x.entry).1))⟩ : Field)]) 2 2 rfl (by omega) (by omega)) (vals := [slv 3 0 2 2]) (v := .tuple #[slv 4 0 ((Z4 (([] ++ [(⟨1, (Zo x.epoch).1⟩ : Field)]) ++ [(⟨2, (Zk ((Zbw x.entry).1))⟩ : Field)]) 0 []).1.length) ((Z4 (([] ++ [(⟨1, (Zo x.epoch).1⟩ : Field)]) ++ [(⟨2, (Zk ((Zbw x.entry).1))⟩ : Field)]) 0 []).1.length), Iv ((Z4 (([] ++ [(⟨1, (Zo x.epoch).1⟩ : Field)]) ++ [(⟨2, (Zk ((Zbw x.entry).1))⟩ : Field)]) 0 []).2)]) (H' := [bxB 110 (Zr x), Zar ((Zbw x.entry).1), rfB (slv 3 0 2 2), rwB cFd (([] ++ [(⟨1, (Zo x.epoch).1⟩ : Field)]) ++ [(⟨2, (Zk ((Zbw x.entry).1))⟩ : Field)]), Zar ((Z4 (([] ++ [(⟨1, (Zo x.epoch).1⟩ : Field)]) ++ [(⟨2, (Zk ((Zbw x.entry).1))⟩ : Field)]) 0 []).1)]) rfl rfl rfl rfl rfl rfl rfl ⟨⟨⟨rfl, rfl, rfl, by first | omega | exact Nat.le_refl _, by first | omega | exact Nat.le_refl _⟩, trivial⟩, ⟨(Zg2 rfl), trivial⟩, rfl, rfl, rfl⟩ (by kernel_rfl) (by kernel_rfl) ?_
  refine Zq (vs := #[slv 4 0 ((Z4 (([] ++ [(⟨1, (Zo x.epoch).1⟩ : Field)]) ++ [(⟨2, (Zk ((Zbw x.entry).1))⟩ : Field)]) 0 []).1.length) ((Z4 (([] ++ [(⟨1, (Zo x.epoch).1⟩ : Field)]) ++ [(⟨2, (Zk ((Zbw x.entry).1))⟩ : Field)]) 0 []).1.length), Iv ((Z4 (([] ++ [(⟨1, (Zo x.epoch).1⟩ : Field)]) ++ [(⟨2, (Zk ((Zbw x.entry).1))⟩ : Field)]) 0 []).2)]) (v := slv 4 0 ((Z4 (([] ++ [(⟨1, (Zo x.epoch).1⟩ : Field)]) ++ [(⟨2, (Zk ((Zbw x.entry).1))⟩ : Field)]) 0 []).1.length) ((Z4 (([] ++ [(⟨1, (Zo x.epoch).1⟩ : Field)]) ++ [(⟨2, (Zk ((Zbw x.entry).1))⟩ : Field)]) 0 []).1.length)) (Zq (vs := #[slv 4 0 ((Z4 (([] ++ [(⟨1, (Zo x.epoch).1⟩ : Field)]) ++ [(⟨2, (Zk ((Zbw x.entry).1))⟩ : Field)]) 0 []).1.length) ((Z4 (([] ++ [(⟨1, (Zo x.epoch).1⟩ : Field)]) ++ [(⟨2, (Zk ((Zbw x.entry).1))⟩ : Field)]) 0 []).1.length), Iv ((Z4 (([] ++ [(⟨1, (Zo x.epoch).1⟩ : Field)]) ++ [(⟨2, (Zk ((Zbw x.entry).1))⟩ : Field)]) 0 []).2)]) (v := Iv ((Z4 (([] ++ [(⟨1, (Zo x.epoch).1⟩ : Field)]) ++ [(⟨2, (Zk ((Zbw x.entry).1))⟩ : Field)]) 0 []).2)) (Zb (slv 4 0 ((Z4 (([] ++ [(⟨1, (Zo x.epoch).1⟩ : Field)]) ++ [(⟨2, (Zk ((Zbw x.entry).1))⟩ : Field)]) 0 []).1.length) ((Z4 (([] ++ [(⟨1, (Zo x.epoch).1⟩ : Field)]) ++ [(⟨2, (Zk ((Zbw x.entry).1))⟩ : Field)]) 0 []).1.length)) (Zb (Iv ((Z4 (([] ++ [(⟨1, (Zo x.epoch).1⟩ : Field)]) ++ [(⟨2, (Zk ((Zbw x.entry).1))⟩ : Field)]) 0 []).2)) (Za (Zc (Zs (Zu ?_)))))))
  have ee : (([] ++ [(⟨1, (Zo x.epoch).1⟩ : Field)]) ++ [(⟨2, (Zk ((Zbw x.entry).1))⟩ : Field)]) = Zpv x := rfl
  have ez := Z1o x
  rw [← ee] at ez
  rw [show Zcl x = ((Z4 (([] ++ [(⟨1, (Zo x.epoch).1⟩ : Field)]) ++ [(⟨2, (Zk ((Zbw x.entry).1))⟩ : Field)]) 0 []).1, (Z4 (([] ++ [(⟨1, (Zo x.epoch).1⟩ : Field)]) ++ [(⟨2, (Zk ((Zbw x.entry).1))⟩ : Field)]) 0 []).2) from by rw [ez, ee]; exact if_pos ⟨by omega, by omega, Z6e (by omega)⟩]
  exact Zbb [4] (v := .tuple #[slv 4 0 ((Z4 (([] ++ [(⟨1, (Zo x.epoch).1⟩ : Field)]) ++ [(⟨2, (Zk ((Zbw x.entry).1))⟩ : Field)]) 0 []).1.length) ((Z4 (([] ++ [(⟨1, (Zo x.epoch).1⟩ : Field)]) ++ [(⟨2, (Zk ((Zbw x.entry).1))⟩ : Field)]) 0 []).1.length), Iv ((Z4 (([] ++ [(⟨1, (Zo x.epoch).1⟩ : Field)]) ++ [(⟨2, (Zk ((Zbw x.entry).1))⟩ : Field)]) 0 []).2)]) rfl (by kernel_rfl) rfl rfl (by decide) (by simp [Zbe, Zar]) ⟨⟨rfl, rfl, rfl, by first | omega | exact Nat.le_refl _ | exact Nat.zero_le _ | (dsimp only; omega), by first | omega | exact Nat.le_refl _ | exact Nat.zero_le _ | (dsimp only; omega)⟩, rfl, trivial⟩
  refine Zp ((Za5 (G := G) x.epoch 1 900000000).res (congrArg Value.bool (Zao (by omega)))) (vals := [Iv x.epoch, Iv 1, Iv 900000000]) (res' := .bool false) rfl rfl rfl rfl rfl rfl ?_
  refine Zi1 (vx := .bool false) rfl rfl (.bool true) rfl Zeu ?_
  refine Zl (.bool true) (Za (Zc (Zv rfl (Ze (Zf (Zb (.slice none 0 0) (Zb (Iv 60) (Za (Zc ?_)))))))))
  refine Zb5 (Zbo.nilTmp (i := 2) (b := 2) true 1 rfl (by decide) rfl) ?_
  refine Zs (Zaa (Zu ?_))
  rw [show Zcl x = ([], 60) from if_neg (fun q => by have q1 := q.1; have q2 := q.2.1; first | omega | (have := Zw7 q.2.2; omega))]
  exact Zbb [2] (v := .tuple #[slv 2 0 0 0, Iv 60]) rfl (by kernel_rfl) rfl rfl (by decide) (by simp [Zbe, Zar]) ⟨⟨rfl, rfl, rfl, by first | omega | exact Nat.le_refl _ | exact Nat.zero_le _ | (dsimp only; omega), by first | omega | exact Nat.le_refl _ | exact Nat.zero_le _ | (dsimp only; omega)⟩, rfl, trivial⟩
  refine Zp ((Za5 (G := G) x.epoch 1 900000000).res (congrArg Value.bool (Zao (by omega)))) (vals := [Iv x.epoch, Iv 1, Iv 900000000]) (res' := .bool false) rfl rfl rfl rfl rfl rfl ?_
  refine Zi1 (vx := .bool false) rfl rfl (.bool true) rfl Zeu ?_
  refine Zl (.bool true) (Za (Zc (Zv rfl (Ze (Zf (Zb (.slice none 0 0) (Zb (Iv 60) (Za (Zc ?_)))))))))
  refine Zb5 (Zbo.nilTmp (i := 2) (b := 2) true 1 rfl (by decide) rfl) ?_
  refine Zs (Zaa (Zu ?_))
  rw [show Zcl x = ([], 60) from if_neg (fun q => by have q1 := q.1; have q2 := q.2.1; first | omega | (have := Zw7 q.2.2; omega))]
  exact Zbb [2] (v := .tuple #[slv 2 0 0 0, Iv 60]) rfl (by kernel_rfl) rfl rfl (by decide) (by simp [Zbe, Zar]) ⟨⟨rfl, rfl, rfl, by first | omega | exact Nat.le_refl _ | exact Nat.zero_le _ | (dsimp only; omega), by first | omega | exact Nat.le_refl _ | exact Nat.zero_le _ | (dsimp only; omega)⟩, rfl, trivial⟩
theorem Zxb (kk : Nat → BitVec 32) (hG : G 0 = some (Z6 w32 64 kk)) (s : ByteArray) (hs : s.size ≤ 1000000) : Z9 Tryd.prog G 33 [.string s] [] (dgV (lfT kk s)) [] := by
  refine Zbu (fn := Tryd.f33) (nt := 6) rfl rfl rfl rfl ?_
  refine Zaj 2 (H' := [hole, hole]) rfl ?_
  refine Ze (Zf (Zai (b := dgB dz) (nid := 0) (H' := [dgB dz, hole]) (Za (Zc (Ze (Zf (Zd (.string s) ?_)))))))
  refine Zel (vs := [(0, .string Zjw), (1, .string s)]) (v := slv 1 0 2 2) (blk := txB [Zjw, s]) (nid := 1) (H' := [dgB dz, txB [Zjw, s]]) rfl rfl rfl (by kernel_rfl) (by kernel_rfl) ?_
  refine Zab (e := [some (1, 0)]) (nid := 0) (Ztf (G := G) kk hG [Zjw, s] 2 (by simp) (by intro x hx; simp at hx; rcases hx with rfl | rfl <;> first | omega | (show 1 ≤ _; omega))) (vals := [slv 1 0 2 2]) (v := dgV (Zcx kk (Zby [Zjw, s]))) (H' := [dgB dz, txB [Zjw, s]]) rfl rfl rfl rfl rfl rfl rfl ⟨⟨⟨rfl, rfl, rfl, by first | omega | exact Nat.le_refl _, by first | omega | exact Nat.le_refl _⟩, trivial⟩, ⟨(Zwk rfl), trivial⟩, rfl, rfl, rfl⟩ (by kernel_rfl) (by kernel_rfl) ?_
  refine Z2 (p := pt 0 0) (v := dgV (Zcx kk (Zby [Zjw, s]))) (b := 0) (blk := dgB (Zcx kk (Zby [Zjw, s]))) (H' := [dgB (Zcx kk (Zby [Zjw, s])), txB [Zjw, s]]) (Za (Zc (Zs (Zu ?_))))
  exact Zm (v := dgV (Zcx kk (Zby [Zjw, s]))) (by kernel_rfl) rfl rfl (by kernel_rfl) (Zc0 (Zcj fun _ => rfl) rfl)
theorem Zxt (kk : Nat → BitVec 32) (hG : G 0 = some (Z6 w32 64 kk)) (x : Item) : Z9 Tryd.prog G 18 [Zbq x] [] (.tuple #[dgV (Zap kk x).1, Iv (Zap kk x).2]) [] := by
 refine Zbu (fn := Tryd.f18) (nt := 18) rfl rfl rfl rfl ?_
 refine Zaj 3 (H' := [hole, hole, hole]) rfl ?_
 refine Ze (Zf (Zci (v := Zbq x) (b := bxB 110 (Zr x)) (nid := 0) (H' := [bxB 110 (Zr x), hole, hole]) (Zai (b := dgB dz) (nid := 1) (H' := [bxB 110 (Zr x), dgB dz, hole]) (Zb (Iv 0) (Za (Zc (Ze (Zf (Zn (p := pt 0 0) (v := Zbq x) ?_)))))))))
 refine Zab (e := []) (nid := 2) (Zv0 (G := G) x) (vals := [Zbq x]) (v := .tuple #[slv 2 0 ((Zcl x).1.length) ((Zcl x).1.length), Iv ((Zcl x).2)]) (H' := [bxB 110 (Zr x), dgB dz, Zar ((Zcl x).1)]) rfl rfl rfl rfl rfl rfl rfl ⟨⟨rfl, trivial⟩, trivial, rfl, rfl, rfl⟩ (by kernel_rfl) (by kernel_rfl) ?_
 refine Zd (.tuple #[slv 2 0 ((Zcl x).1.length) ((Zcl x).1.length), Iv ((Zcl x).2)]) (Zq (vs := #[slv 2 0 ((Zcl x).1.length) ((Zcl x).1.length), Iv ((Zcl x).2)]) (v := slv 2 0 ((Zcl x).1.length) ((Zcl x).1.length)) (Zq (vs := #[slv 2 0 ((Zcl x).1.length) ((Zcl x).1.length), Iv ((Zcl x).2)]) (v := Iv ((Zcl x).2)) (Zb (slv 2 0 ((Zcl x).1.length) ((Zcl x).1.length)) (Zb (Iv ((Zcl x).2)) (Za (Zc (Ze (Ze (Zf (Zd (Iv ((Zcl x).2)) ?_))))))))))
 by_cases h1 : ((Zcl x).2) ≠ 0
 refine Zj (vx := Iv ((Zcl x).2)) (vy := Iv 0) rfl rfl (.bool true) rfl rfl (Zek (by omega)) ?_
 refine Za (Zc (Zv rfl (Ze (Zf ?_))))
 refine Zbm (vs := []) (v := dgV dz) rfl rfl rfl (by kernel_rfl) ?_
 refine Zd (Iv ((Zcl x).2)) (Z2 (p := pt 1 0) (v := dgV dz) (b := 1) (blk := dgB dz) (H' := [bxB 110 (Zr x), dgB dz, Zar ((Zcl x).1)]) (Zb (Iv ((Zcl x).2)) (Za (Zc (Zs (Zaa (Zu ?_)))))))
 rw [show Zap kk x = (dz, (Zcl x).2) from by rw [Z6g (by omega)]; exact if_neg (fun q => by have := Z2k q; omega)]
 exact Zm (v := .tuple #[dgV dz, Iv ((Zcl x).2)]) (by kernel_rfl) rfl rfl (by kernel_rfl) ⟨(Zc0 (Zcj fun _ => rfl) rfl), rfl, trivial⟩
 refine Zj (vx := Iv ((Zcl x).2)) (vy := Iv 0) rfl rfl (.bool false) rfl rfl (Zd6 (by omega)) ?_
 refine Za (Zc (Zt rfl (Z0 (Zc (Ze (Zf (Zd (slv 2 0 ((Zcl x).1.length) ((Zcl x).1.length)) ?_)))))))
 refine Zfs (p := slv 2 0 ((Zcl x).1.length) ((Zcl x).1.length)) (v := .string (Zk ((Zcl x).1))) rfl rfl rfl (Zft rfl rfl rfl rfl rfl (by omega)) ?_
 refine Zp (Zxb (G := G) kk hG (Zk ((Zcl x).1)) (by rw [Za6]; have := Z2l x; omega)) (vals := [.string (Zk ((Zcl x).1))]) (res' := dgV (lfT kk (Zk ((Zcl x).1)))) rfl rfl rfl rfl rfl (by kernel_rfl) ?_
 refine Z2 (p := pt 1 0) (v := dgV (lfT kk (Zk ((Zcl x).1)))) (b := 1) (blk := dgB (lfT kk (Zk ((Zcl x).1)))) (H' := [bxB 110 (Zr x), dgB (lfT kk (Zk ((Zcl x).1))), Zar ((Zcl x).1)]) (Zb (Iv 0) (Za (Zc (Zs (Zu ?_)))))
 rw [show Zap kk x = (lfT kk (Zk (Zcl x).1), 0) from if_pos (Z6f (by omega))]
 exact Zm (v := .tuple #[dgV (lfT kk (Zk ((Zcl x).1))), Iv 0]) (by kernel_rfl) rfl rfl (by kernel_rfl) ⟨(Zc0 (Zcj fun _ => rfl) rfl), rfl, trivial⟩
end Go.Flat
