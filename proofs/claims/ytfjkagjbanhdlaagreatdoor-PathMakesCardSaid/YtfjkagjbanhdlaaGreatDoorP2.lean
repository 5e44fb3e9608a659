/- Walks. -/
import Derived.Test.YtfjkagjbanhdlaaGreatDoorP1
set_option linter.unusedVariables false
set_option linter.unusedSimpArgs false
set_option maxRecDepth 20000
namespace Go.Flat
open Go.Proofs
variable {G : Glob}
def Zff : ByteArray := ⟨#[0]⟩
theorem Zsw (s : Signed) : (Zaj s).1.length ≤ 1000 := by
 by_cases hm : Zf4 s
 ·rw [Zot hm]
  have := Zif (Zhn 0 (Zgw s)) 0 []
  have h1 := Za7 s.node
  have h2 := Zmy s.head
  simp only [Zgw, Zhn, Zok, Za1, Zfc, List.length_nil] at this
  show (Z9 (Zhn 0 (Zgw s)) 0 []).1.length ≤ 1000
  simp only [Zgw, Zhn]
  omega
 ·rw [Zs3 hm]; exact Nat.zero_le _
def Zdt (e : Entry) : List Field := if e.kind = 1 then [⟨1, (Zn e.kind).1⟩, ⟨2, (Zn e.client).1⟩, ⟨3, (Zn e.seq).1⟩, ⟨4, e.text⟩] else if e.kind = 2 then [⟨1, (Zn e.kind).1⟩, ⟨5, Zm (Zaj e.head).1⟩] else [⟨1, (Zn e.kind).1⟩, ⟨6, Zm (Zb2 e.claim).1⟩]
theorem Zmg {e : Entry} (h : Zbz e) : 1 ≤ e.kind ∧ e.kind ≤ 3 := by
 rcases h with q | q | q <;> have := q.1 <;> omega
theorem Zj9 {e : Entry} (h : Zbz e) (hk : e.kind = 1) : (1 ≤ e.client ∧ e.client ≤ 3) ∧ (1 ≤ e.seq ∧ e.seq ≤ 1000000) ∧ e.text.size ≤ 200 := by
 rcases h with q | q | q
 ·exact ⟨⟨q.2.1, q.2.2.1⟩, ⟨q.2.2.2.1, q.2.2.2.2.1⟩, q.2.2.2.2.2.1⟩
 ·have := q.1; omega
 ·have := q.1; omega
theorem lay2 (a b : Field) (ha : 0 < a.tag) (hab : a.tag < b.tag) (hb : b.tag ≤ 255) (h1 : a.data.size ≤ 65536) (h2 : b.data.size ≤ 65536) : (Z9 [a, b] 0 []).2 = 0 := by
 have ea : Zfp a 0 = 0 := by unfold Zfp; rw [if_neg (by omega), if_neg (by omega), if_neg (by omega)]
 have eb : Zfp b a.tag = 0 := by unfold Zfp; rw [if_neg (by omega), if_neg (by omega), if_neg (by omega)]
 rw [Z9, if_pos ea, Z9, if_pos eb, Z9]
theorem Zp5 {e : Entry} (h : Zbz e) : (Z9 (Zdt e) 0 []).2 = 0 := by
 have hk := Zmg h
 have n1 := Za7 e.kind
 unfold Zdt
 split
 ·rename_i h1
  have hu := Zj9 h h1
  have n2 := Za7 e.client
  have n3 := Za7 e.seq
  have h := Zlo [(Zn e.kind).1, (Zn e.client).1, (Zn e.seq).1, e.text] 0 [] (by simp) (by
   intro x hx
   simp only [List.mem_cons, List.not_mem_nil, or_false] at hx
   rcases hx with rfl | rfl | rfl | rfl <;> omega)
  show (Z9 (Zhn 0 [(Zn e.kind).1, (Zn e.client).1, (Zn e.seq).1, e.text]) ((0 : Nat) : Int) []).2 = 0
  rw [h]
 ·split
  ·exact lay2 _ _ (by show (0 : Int) < 1; decide) (by show (1 : Int) < 5; decide) (by show (5 : Int) ≤ 255; decide) (by show (Zn e.kind).1.size ≤ 65536; omega) (by show (Zm (Zaj e.head).1).size ≤ 65536; rw [Za1]; have := Zsw e.head; omega)
  ·exact lay2 _ _ (by show (0 : Int) < 1; decide) (by show (1 : Int) < 6; decide) (by show (6 : Int) ≤ 255; decide) (by show (Zn e.kind).1.size ≤ 65536; omega) (by show (Zm (Zb2 e.claim).1).size ≤ 65536; rw [Za1]; have := Zu6 e.claim; omega)
def Zbh (e : Entry) : Bs × Int := if Zbz e then ((Z9 (Zdt e) 0 []).1, 0) else ([], 60)
theorem Zy5 {e : Entry} (h : Zbz e) : (Zbh e).2 = 0 := by rw [show Zbh e = _ from if_pos h]
theorem putE_1 {e : Entry} (h : (Zbh e).2 = 0) : Zbz e := by
 refine Decidable.byContradiction fun q => ?_
 rw [show Zbh e = ([], 60) from if_neg q] at h; exact absurd h (by decide)
theorem Zru (e : Entry) : (Zbh e).1.length ≤ 2000 := by
 by_cases h : Zbz e
 ·rw [show Zbh e = _ from if_pos h]
  show (Z9 (Zdt e) 0 []).1.length ≤ 2000
  have h1 := Zif (Zdt e) 0 []
  have n1 := Za7 e.kind
  have n2 := Za7 e.client
  have n3 := Za7 e.seq
  have n4 := Zsw e.head
  have n5 := Zu6 e.claim
  have h2 : Zok (Zdt e) ≤ 2000 := by
   unfold Zdt
   split
   ·have := (Zj9 h (by assumption)).2.2
    simp only [Zok]; omega
   ·split
    ·simp only [Zok, Za1]; omega
    ·simp only [Zok, Za1]; omega
  simp only [List.length_nil] at h1
  omega
 ·rw [show Zbh e = ([], 60) from if_neg h]; exact Nat.zero_le _
def Zrj (x : Item) : List Field := [⟨1, (Zn x.epoch).1⟩, ⟨2, Zm (Zbh x.entry).1⟩]
theorem Z4k (x : Item) : (Z9 (Zrj x) 0 []).2 = 0 := by
 have n1 := Za7 x.epoch
 have n2 := Zru x.entry
 exact lay2 _ _ (by show (0 : Int) < 1; decide) (by show (1 : Int) < 2; decide) (by show (2 : Int) ≤ 255; decide) (by show (Zn x.epoch).1.size ≤ 65536; omega) (by show (Zm (Zbh x.entry).1).size ≤ 65536; rw [Za1]; omega)
def Zca (x : Item) : Bs × Int := if Zcw x then ((Z9 (Zrj x) 0 []).1, 0) else ([], 60)
theorem Z24 {x : Item} (h : Zcw x) : (Zca x).2 = 0 := by rw [show Zca x = _ from if_pos h]
theorem Z7m {x : Item} (h : (Zca x).2 = 0) : Zcw x := by
 refine Decidable.byContradiction fun q => ?_
 rw [show Zca x = ([], 60) from if_neg q] at h; exact absurd h (by decide)
theorem Z7x {x : Item} (h : (Zca x).2 ≠ 0) : (Zca x).2 = 60 := by
 by_cases q : Zcw x
 ·exact absurd (Z24 q) h
 ·rw [show Zca x = ([], 60) from if_neg q]
theorem Zw0 (x : Item) : (Zca x).1.length ≤ 2100 := by
 unfold Zca
 split
 ·have h1 := Zif (Zrj x) 0 []
  have n1 := Za7 x.epoch
  have n2 := Zru x.entry
  simp only [Zrj, Zok, Za1, List.length_nil] at h1
  show (Z9 (Zrj x) 0 []).1.length ≤ 2100
  simp only [Zrj]; omega
 ·exact Nat.zero_le _
def lfT (kk : Nat → BitVec 32) (s : ByteArray) : D := Zcq kk (Zch [Zff, s])
def Zat (kk : Nat → BitVec 32) (x : Item) : D × Int := if Zcw x then (lfT kk (Zm (Zca x).1), 0) else (dz, 60)
theorem Z6a (e : Entry) : Z6 Tryz.prog G 99 [Zdf e] [] (.tuple #[slv 0 0 (Zbh e).1.length (Zbh e).1.length, Iv (Zbh e).2]) [Zah (Zbh e).1] := by
  refine Za8 (fn := Tryz.f99) (nt := 57) rfl rfl rfl rfl ?_
  refine Zaa 5 (H' := [hole, hole, hole, hole, hole]) rfl ?_
  refine Zf (Zg (Zbq (v := Zdf e) (b := bxB 109 (Zcs e)) (nid := 0) (H' := [bxB 109 (Zcs e), hole, hole, hole, hole]) (Zb (.slice none 0 0) (Zb (Iv 0) (Za (Zc (Zf (Zf (Zg (Zp (p := pt 0 0) (v := Zdf e) ?_))))))))))
  refine Zo (Zpa (G := G) e) (vals := [Zdf e]) (res' := Iv (Zfq e)) rfl rfl rfl rfl rfl rfl ?_
  refine Zb (Iv (Zfq e)) (Za (Zc (Zf (Zg (Zd (Iv (Zfq e)) ?_)))))
  by_cases h1 : (Zfq e) ≠ 0
  refine Zl (vx := Iv (Zfq e)) (vy := Iv 0) rfl rfl (.bool true) rfl rfl (Zea (by omega)) ?_
  refine Za (Zc (Zx rfl (Zf (Zg (Zd (Iv (Zfq e)) (Zb (.slice none 0 0) (Zb (Iv (Zfq e)) (Za (Zc ?_)))))))))
  refine Zbo (Zb6.nilTmp (i := 2) (b := 1) true 1 rfl (by decide) rfl) ?_
  refine Zq (Zz (Zr ?_))
  rw [show Zbh e = ([], Zfq e) from by rw [show Zfq e = 60 from if_neg (Zk5 (by omega))]; exact if_neg (Zk5 (by omega))]
  exact Zav [1] (v := .tuple #[slv 1 0 0 0, Iv (Zfq e)]) rfl (by kernel_rfl) rfl rfl (by decide) (by simp [Za0, Zah]) ⟨⟨rfl, rfl, rfl, by first | omega | exact Nat.le_refl _ | exact Nat.zero_le _ | (dsimp only; omega), by first | omega | exact Nat.le_refl _ | exact Nat.zero_le _ | (dsimp only; omega)⟩, rfl, trivial⟩
  refine Zl (vx := Iv (Zfq e)) (vy := Iv 0) rfl rfl (.bool false) rfl rfl (Zdz (by omega)) ?_
  refine Za (Zc (Zu rfl (Z0 (Zc (Zf (Zg (Zam (b := rfB (.slice none 0 0)) (nid := 1) (H' := [bxB 109 (Zcs e), rfB (.slice none 0 0), hole, hole, hole]) (Za (Zc (Zf ?_))))))))))
  have hr := Zwh (e := e) (by omega)
  have hk := Zmg hr
  refine Zbo (Zb6.nilCell (k := 1) (j := 0) (b := 2) true 2 rfl (by decide) rfl (by show 0 < 1; decide) rfl rfl) ?_
  refine Zg (Zh (b := 0) (o := 0) (n := 0) (o' := 0) (Zp (p := pt 0 0) (v := Iv e.kind) ?_))
  refine Zdq (e := [some (1, 0), some (2, 0)]) (nid := 0) (Zm6 (G := G) [] 0 1 e.kind rfl (by omega) (by omega) (by omega)) (vals := [pt 1 0, Iv 1, Iv e.kind]) (v := .tuple #[]) (H' := [bxB 109 (Zcs e), rfB (slv 2 0 1 1), rwB cFd ([] ++ [(⟨1, (Zn e.kind).1⟩ : Field)]), hole, hole]) rfl rfl rfl rfl rfl rfl ⟨⟨⟨rfl, rfl⟩, rfl, rfl, trivial⟩, ⟨(Zbd rfl rfl rfl rfl), (Zbd rfl rfl rfl rfl), trivial⟩, rfl, rfl, rfl, Nat.le_refl _⟩ (by kernel_rfl) rfl (by kernel_rfl) ?_
  refine Za (Zc (Zf (Zf (Zg (Zh (b := 0) (o := 0) (n := 0) (o' := 0) (Zp (p := pt 0 0) (v := Iv e.kind) (Za (Zc (Z1 (Zf (Zg ?_)))))))))))
  by_cases h2 : e.kind = 1
  refine Zl (vx := Iv e.kind) (vy := Iv 1) rfl rfl (.bool true) rfl rfl (Zdn (by omega)) ?_
  refine Zb (.bool true) (Za (Zc (Zx rfl (Zf ?_))))
  have hu := Zj9 hr (by omega)
  refine Zg (Zh (b := 0) (o := 0) (n := 1) (o' := 1) (Zp (p := pt 0 1) (v := Iv e.client) ?_))
  refine Zdq (e := [some (1, 0), some (2, 0)]) (nid := 0) (Zm6 (G := G) ([] ++ [(⟨1, (Zn e.kind).1⟩ : Field)]) 1 2 e.client rfl (by omega) (by omega) (by omega)) (vals := [pt 1 0, Iv 2, Iv e.client]) (v := .tuple #[]) (H' := [bxB 109 (Zcs e), rfB (slv 2 0 2 2), rwB cFd (([] ++ [(⟨1, (Zn e.kind).1⟩ : Field)]) ++ [(⟨2, (Zn e.client).1⟩ : Field)]), hole, hole]) rfl rfl rfl rfl rfl rfl ⟨⟨⟨rfl, rfl⟩, rfl, rfl, trivial⟩, ⟨(Zbd rfl rfl rfl rfl), (Zbd rfl rfl rfl rfl), trivial⟩, rfl, rfl, rfl, Nat.le_refl _⟩ (by kernel_rfl) rfl (by kernel_rfl) ?_
  refine Za (Zc (Zf (Zg (Zh (b := 0) (o := 0) (n := 2) (o' := 2) (Zp (p := pt 0 2) (v := Iv e.seq) ?_)))))
  refine Zdq (e := [some (1, 0), some (2, 0)]) (nid := 0) (Zm6 (G := G) (([] ++ [(⟨1, (Zn e.kind).1⟩ : Field)]) ++ [(⟨2, (Zn e.client).1⟩ : Field)]) 2 3 e.seq rfl (by omega) (by omega) (by omega)) (vals := [pt 1 0, Iv 3, Iv e.seq]) (v := .tuple #[]) (H' := [bxB 109 (Zcs e), rfB (slv 2 0 3 3), rwB cFd ((([] ++ [(⟨1, (Zn e.kind).1⟩ : Field)]) ++ [(⟨2, (Zn e.client).1⟩ : Field)]) ++ [(⟨3, (Zn e.seq).1⟩ : Field)]), hole, hole]) rfl rfl rfl rfl rfl rfl ⟨⟨⟨rfl, rfl⟩, rfl, rfl, trivial⟩, ⟨(Zbd rfl rfl rfl rfl), (Zbd rfl rfl rfl rfl), trivial⟩, rfl, rfl, rfl, Nat.le_refl _⟩ (by kernel_rfl) rfl (by kernel_rfl) ?_
  refine Za (Zc (Zg (Zh (b := 0) (o := 0) (n := 3) (o' := 3) (Zp (p := pt 0 3) (v := .string e.text) ?_))))
  refine Zdq (e := [some (1, 0), some (2, 0)]) (nid := 0) (Zlr (G := G) ((([] ++ [(⟨1, (Zn e.kind).1⟩ : Field)]) ++ [(⟨2, (Zn e.client).1⟩ : Field)]) ++ [(⟨3, (Zn e.seq).1⟩ : Field)]) 3 4 e.text rfl (by omega)) (vals := [pt 1 0, Iv 4, .string e.text]) (v := .tuple #[]) (H' := [bxB 109 (Zcs e), rfB (slv 2 0 4 4), rwB cFd (((([] ++ [(⟨1, (Zn e.kind).1⟩ : Field)]) ++ [(⟨2, (Zn e.client).1⟩ : Field)]) ++ [(⟨3, (Zn e.seq).1⟩ : Field)]) ++ [(⟨4, e.text⟩ : Field)]), hole, hole]) rfl rfl rfl rfl rfl rfl ⟨⟨⟨rfl, rfl⟩, rfl, rfl, trivial⟩, ⟨(Zbd rfl rfl rfl rfl), (Zbd rfl rfl rfl rfl), trivial⟩, rfl, rfl, rfl, Nat.le_refl _⟩ (by kernel_rfl) rfl (by kernel_rfl) ?_
  refine Za (Z4 (Zc (Zf (Zg ?_))))
  refine Zad (p := pt 1 0) (v := slv 2 0 4 4) rfl rfl rfl rfl ?_
  refine Z2 (e := [some (2, 0)]) (nid := 3) (Zhl (G := G) (((([] ++ [(⟨1, (Zn e.kind).1⟩ : Field)]) ++ [(⟨2, (Zn e.client).1⟩ : Field)]) ++ [(⟨3, (Zn e.seq).1⟩ : Field)]) ++ [(⟨4, e.text⟩ : Field)]) 4 4 rfl (by omega) (by omega)) (vals := [slv 2 0 4 4]) (v := .tuple #[slv 3 0 ((Z9 (((([] ++ [(⟨1, (Zn e.kind).1⟩ : Field)]) ++ [(⟨2, (Zn e.client).1⟩ : Field)]) ++ [(⟨3, (Zn e.seq).1⟩ : Field)]) ++ [(⟨4, e.text⟩ : Field)]) 0 []).1.length) ((Z9 (((([] ++ [(⟨1, (Zn e.kind).1⟩ : Field)]) ++ [(⟨2, (Zn e.client).1⟩ : Field)]) ++ [(⟨3, (Zn e.seq).1⟩ : Field)]) ++ [(⟨4, e.text⟩ : Field)]) 0 []).1.length), Iv ((Z9 (((([] ++ [(⟨1, (Zn e.kind).1⟩ : Field)]) ++ [(⟨2, (Zn e.client).1⟩ : Field)]) ++ [(⟨3, (Zn e.seq).1⟩ : Field)]) ++ [(⟨4, e.text⟩ : Field)]) 0 []).2)]) (H' := [bxB 109 (Zcs e), rfB (slv 2 0 4 4), rwB cFd (((([] ++ [(⟨1, (Zn e.kind).1⟩ : Field)]) ++ [(⟨2, (Zn e.client).1⟩ : Field)]) ++ [(⟨3, (Zn e.seq).1⟩ : Field)]) ++ [(⟨4, e.text⟩ : Field)]), Zah ((Z9 (((([] ++ [(⟨1, (Zn e.kind).1⟩ : Field)]) ++ [(⟨2, (Zn e.client).1⟩ : Field)]) ++ [(⟨3, (Zn e.seq).1⟩ : Field)]) ++ [(⟨4, e.text⟩ : Field)]) 0 []).1), hole]) rfl rfl rfl rfl rfl rfl rfl ⟨⟨⟨rfl, rfl, rfl, by first | omega | exact Nat.le_refl _, by first | omega | exact Nat.le_refl _⟩, trivial⟩, ⟨(Zgb rfl), trivial⟩, rfl, rfl, rfl⟩ (by kernel_rfl) (by kernel_rfl) ?_
  refine Zw (vs := #[slv 3 0 ((Z9 (((([] ++ [(⟨1, (Zn e.kind).1⟩ : Field)]) ++ [(⟨2, (Zn e.client).1⟩ : Field)]) ++ [(⟨3, (Zn e.seq).1⟩ : Field)]) ++ [(⟨4, e.text⟩ : Field)]) 0 []).1.length) ((Z9 (((([] ++ [(⟨1, (Zn e.kind).1⟩ : Field)]) ++ [(⟨2, (Zn e.client).1⟩ : Field)]) ++ [(⟨3, (Zn e.seq).1⟩ : Field)]) ++ [(⟨4, e.text⟩ : Field)]) 0 []).1.length), Iv ((Z9 (((([] ++ [(⟨1, (Zn e.kind).1⟩ : Field)]) ++ [(⟨2, (Zn e.client).1⟩ : Field)]) ++ [(⟨3, (Zn e.seq).1⟩ : Field)]) ++ [(⟨4, e.text⟩ : Field)]) 0 []).2)]) (v := slv 3 0 ((Z9 (((([] ++ [(⟨1, (Zn e.kind).1⟩ : Field)]) ++ [(⟨2, (Zn e.client).1⟩ : Field)]) ++ [(⟨3, (Zn e.seq).1⟩ : Field)]) ++ [(⟨4, e.text⟩ : Field)]) 0 []).1.length) ((Z9 (((([] ++ [(⟨1, (Zn e.kind).1⟩ : Field)]) ++ [(⟨2, (Zn e.client).1⟩ : Field)]) ++ [(⟨3, (Zn e.seq).1⟩ : Field)]) ++ [(⟨4, e.text⟩ : Field)]) 0 []).1.length)) (Zw (vs := #[slv 3 0 ((Z9 (((([] ++ [(⟨1, (Zn e.kind).1⟩ : Field)]) ++ [(⟨2, (Zn e.client).1⟩ : Field)]) ++ [(⟨3, (Zn e.seq).1⟩ : Field)]) ++ [(⟨4, e.text⟩ : Field)]) 0 []).1.length) ((Z9 (((([] ++ [(⟨1, (Zn e.kind).1⟩ : Field)]) ++ [(⟨2, (Zn e.client).1⟩ : Field)]) ++ [(⟨3, (Zn e.seq).1⟩ : Field)]) ++ [(⟨4, e.text⟩ : Field)]) 0 []).1.length), Iv ((Z9 (((([] ++ [(⟨1, (Zn e.kind).1⟩ : Field)]) ++ [(⟨2, (Zn e.client).1⟩ : Field)]) ++ [(⟨3, (Zn e.seq).1⟩ : Field)]) ++ [(⟨4, e.text⟩ : Field)]) 0 []).2)]) (v := Iv ((Z9 (((([] ++ [(⟨1, (Zn e.kind).1⟩ : Field)]) ++ [(⟨2, (Zn e.client).1⟩ : Field)]) ++ [(⟨3, (Zn e.seq).1⟩ : Field)]) ++ [(⟨4, e.text⟩ : Field)]) 0 []).2)) (Zb (slv 3 0 ((Z9 (((([] ++ [(⟨1, (Zn e.kind).1⟩ : Field)]) ++ [(⟨2, (Zn e.client).1⟩ : Field)]) ++ [(⟨3, (Zn e.seq).1⟩ : Field)]) ++ [(⟨4, e.text⟩ : Field)]) 0 []).1.length) ((Z9 (((([] ++ [(⟨1, (Zn e.kind).1⟩ : Field)]) ++ [(⟨2, (Zn e.client).1⟩ : Field)]) ++ [(⟨3, (Zn e.seq).1⟩ : Field)]) ++ [(⟨4, e.text⟩ : Field)]) 0 []).1.length)) (Zb (Iv ((Z9 (((([] ++ [(⟨1, (Zn e.kind).1⟩ : Field)]) ++ [(⟨2, (Zn e.client).1⟩ : Field)]) ++ [(⟨3, (Zn e.seq).1⟩ : Field)]) ++ [(⟨4, e.text⟩ : Field)]) 0 []).2)) (Za (Zc (Zq (Zr ?_)))))))
  have ee : (((([] ++ [(⟨1, (Zn e.kind).1⟩ : Field)]) ++ [(⟨2, (Zn e.client).1⟩ : Field)]) ++ [(⟨3, (Zn e.seq).1⟩ : Field)]) ++ [(⟨4, e.text⟩ : Field)]) = Zdt e := by unfold Zdt; first | (rw [if_pos (by omega)]; done) | (rw [if_pos (by omega)]; rfl) | (rw [if_neg (by omega), if_pos (by omega)]; rfl) | (rw [if_neg (by omega), if_neg (by omega)]; rfl)
  have ez := Zp5 hr
  rw [← ee] at ez
  rw [show Zbh e = ((Z9 (((([] ++ [(⟨1, (Zn e.kind).1⟩ : Field)]) ++ [(⟨2, (Zn e.client).1⟩ : Field)]) ++ [(⟨3, (Zn e.seq).1⟩ : Field)]) ++ [(⟨4, e.text⟩ : Field)]) 0 []).1, (Z9 (((([] ++ [(⟨1, (Zn e.kind).1⟩ : Field)]) ++ [(⟨2, (Zn e.client).1⟩ : Field)]) ++ [(⟨3, (Zn e.seq).1⟩ : Field)]) ++ [(⟨4, e.text⟩ : Field)]) 0 []).2) from by rw [ez, ee]; exact if_pos hr]
  exact Zav [3] (v := .tuple #[slv 3 0 ((Z9 (((([] ++ [(⟨1, (Zn e.kind).1⟩ : Field)]) ++ [(⟨2, (Zn e.client).1⟩ : Field)]) ++ [(⟨3, (Zn e.seq).1⟩ : Field)]) ++ [(⟨4, e.text⟩ : Field)]) 0 []).1.length) ((Z9 (((([] ++ [(⟨1, (Zn e.kind).1⟩ : Field)]) ++ [(⟨2, (Zn e.client).1⟩ : Field)]) ++ [(⟨3, (Zn e.seq).1⟩ : Field)]) ++ [(⟨4, e.text⟩ : Field)]) 0 []).1.length), Iv ((Z9 (((([] ++ [(⟨1, (Zn e.kind).1⟩ : Field)]) ++ [(⟨2, (Zn e.client).1⟩ : Field)]) ++ [(⟨3, (Zn e.seq).1⟩ : Field)]) ++ [(⟨4, e.text⟩ : Field)]) 0 []).2)]) rfl (by kernel_rfl) rfl rfl (by decide) (by simp [Za0, Zah]) ⟨⟨rfl, rfl, rfl, by first | omega | exact Nat.le_refl _ | exact Nat.zero_le _ | (dsimp only; omega), by first | omega | exact Nat.le_refl _ | exact Nat.zero_le _ | (dsimp only; omega)⟩, rfl, trivial⟩
  refine Zl (vx := Iv e.kind) (vy := Iv 1) rfl rfl (.bool false) rfl rfl (Zer (by omega)) ?_
  refine Zb (.bool false) (Za (Zc (Zu rfl (Zf (Zg ?_)))))
  by_cases h3 : e.kind = 2
  refine Zl (vx := Iv e.kind) (vy := Iv 2) rfl rfl (.bool true) rfl rfl (Zdn (by omega)) ?_
  refine Zb (.bool true) (Za (Zc (Zx rfl (Zf (Zg (Zh (b := 0) (o := 0) (n := 4) (o' := 4) (Zp (p := pt 0 4) (v := Zy e.head) ?_)))))))
  refine Z2 (e := []) (nid := 3) (Znw (G := G) e.head) (vals := [Zy e.head]) (v := .tuple #[slv 3 0 ((Zaj e.head).1.length) ((Zaj e.head).1.length), Iv ((Zaj e.head).2)]) (H' := [bxB 109 (Zcs e), rfB (slv 2 0 1 1), rwB cFd ([] ++ [(⟨1, (Zn e.kind).1⟩ : Field)]), Zah ((Zaj e.head).1), hole]) rfl rfl rfl rfl rfl rfl rfl ⟨⟨rfl, trivial⟩, trivial, rfl, rfl, rfl⟩ (by kernel_rfl) (by kernel_rfl) ?_
  refine Zd (.tuple #[slv 3 0 ((Zaj e.head).1.length) ((Zaj e.head).1.length), Iv ((Zaj e.head).2)]) (Zw (vs := #[slv 3 0 ((Zaj e.head).1.length) ((Zaj e.head).1.length), Iv ((Zaj e.head).2)]) (v := slv 3 0 ((Zaj e.head).1.length) ((Zaj e.head).1.length)) (Zw (vs := #[slv 3 0 ((Zaj e.head).1.length) ((Zaj e.head).1.length), Iv ((Zaj e.head).2)]) (v := Iv ((Zaj e.head).2)) (Zb (slv 3 0 ((Zaj e.head).1.length) ((Zaj e.head).1.length)) (Zb (Iv ((Zaj e.head).2)) (Za (Zc (Zg (Zd (slv 3 0 ((Zaj e.head).1.length) ((Zaj e.head).1.length)) ?_))))))))
  refine Ze2 (p := slv 3 0 ((Zaj e.head).1.length) ((Zaj e.head).1.length)) (v := .string (Zm ((Zaj e.head).1))) rfl rfl rfl (Zdu rfl rfl rfl rfl rfl (by omega)) ?_
  refine Zdq (e := [some (1, 0), some (2, 0)]) (nid := 0) (Zlr (G := G) ([] ++ [(⟨1, (Zn e.kind).1⟩ : Field)]) 1 5 (Zm ((Zaj e.head).1)) rfl (by omega)) (vals := [pt 1 0, Iv 5, .string (Zm ((Zaj e.head).1))]) (v := .tuple #[]) (H' := [bxB 109 (Zcs e), rfB (slv 2 0 2 2), rwB cFd (([] ++ [(⟨1, (Zn e.kind).1⟩ : Field)]) ++ [(⟨5, (Zm ((Zaj e.head).1))⟩ : Field)]), Zah ((Zaj e.head).1), hole]) rfl rfl rfl rfl rfl rfl ⟨⟨⟨rfl, rfl⟩, rfl, rfl, trivial⟩, ⟨(Zbd rfl rfl rfl rfl), (Zbd rfl rfl rfl rfl), trivial⟩, rfl, rfl, rfl, Nat.le_refl _⟩ (by kernel_rfl) rfl (by kernel_rfl) ?_
  refine Za (Z4 (Zc (Zf (Zg ?_))))
  refine Zad (p := pt 1 0) (v := slv 2 0 2 2) rfl rfl rfl rfl ?_
  refine Z2 (e := [some (2, 0)]) (nid := 4) (Zhl (G := G) (([] ++ [(⟨1, (Zn e.kind).1⟩ : Field)]) ++ [(⟨5, (Zm ((Zaj e.head).1))⟩ : Field)]) 2 2 rfl (by omega) (by omega)) (vals := [slv 2 0 2 2]) (v := .tuple #[slv 4 0 ((Z9 (([] ++ [(⟨1, (Zn e.kind).1⟩ : Field)]) ++ [(⟨5, (Zm ((Zaj e.head).1))⟩ : Field)]) 0 []).1.length) ((Z9 (([] ++ [(⟨1, (Zn e.kind).1⟩ : Field)]) ++ [(⟨5, (Zm ((Zaj e.head).1))⟩ : Field)]) 0 []).1.length), Iv ((Z9 (([] ++ [(⟨1, (Zn e.kind).1⟩ : Field)]) ++ [(⟨5, (Zm ((Zaj e.head).1))⟩ : Field)]) 0 []).2)]) (H' := [bxB 109 (Zcs e), rfB (slv 2 0 2 2), rwB cFd (([] ++ [(⟨1, (Zn e.kind).1⟩ : Field)]) ++ [(⟨5, (Zm ((Zaj e.head).1))⟩ : Field)]), Zah ((Zaj e.head).1), Zah ((Z9 (([] ++ [(⟨1, (Zn e.kind).1⟩ : Field)]) ++ [(⟨5, (Zm ((Zaj e.head).1))⟩ : Field)]) 0 []).1)]) rfl rfl rfl rfl rfl rfl rfl ⟨⟨⟨rfl, rfl, rfl, by first | omega | exact Nat.le_refl _, by first | omega | exact Nat.le_refl _⟩, trivial⟩, ⟨(Zgb rfl), trivial⟩, rfl, rfl, rfl⟩ (by kernel_rfl) (by kernel_rfl) ?_
  refine Zw (vs := #[slv 4 0 ((Z9 (([] ++ [(⟨1, (Zn e.kind).1⟩ : Field)]) ++ [(⟨5, (Zm ((Zaj e.head).1))⟩ : Field)]) 0 []).1.length) ((Z9 (([] ++ [(⟨1, (Zn e.kind).1⟩ : Field)]) ++ [(⟨5, (Zm ((Zaj e.head).1))⟩ : Field)]) 0 []).1.length), Iv ((Z9 (([] ++ [(⟨1, (Zn e.kind).1⟩ : Field)]) ++ [(⟨5, (Zm ((Zaj e.head).1))⟩ : Field)]) 0 []).2)]) (v := slv 4 0 ((Z9 (([] ++ [(⟨1, (Zn e.kind).1⟩ : Field)]) ++ [(⟨5, (Zm ((Zaj e.head).1))⟩ : Field)]) 0 []).1.length) ((Z9 (([] ++ [(⟨1, (Zn e.kind).1⟩ : Field)]) ++ [(⟨5, (Zm ((Zaj e.head).1))⟩ : Field)]) 0 []).1.length)) (Zw (vs := #[slv 4 0 ((Z9 (([] ++ [(⟨1, (Zn e.kind).1⟩ : Field)]) ++ [(⟨5, (Zm ((Zaj e.head).1))⟩ : Field)]) 0 []).1.length) ((Z9 (([] ++ [(⟨1, (Zn e.kind).1⟩ : Field)]) ++ [(⟨5, (Zm ((Zaj e.head).1))⟩ : Field)]) 0 []).1.length), Iv ((Z9 (([] ++ [(⟨1, (Zn e.kind).1⟩ : Field)]) ++ [(⟨5, (Zm ((Zaj e.head).1))⟩ : Field)]) 0 []).2)]) (v := Iv ((Z9 (([] ++ [(⟨1, (Zn e.kind).1⟩ : Field)]) ++ [(⟨5, (Zm ((Zaj e.head).1))⟩ : Field)]) 0 []).2)) (Zb (slv 4 0 ((Z9 (([] ++ [(⟨1, (Zn e.kind).1⟩ : Field)]) ++ [(⟨5, (Zm ((Zaj e.head).1))⟩ : Field)]) 0 []).1.length) ((Z9 (([] ++ [(⟨1, (Zn e.kind).1⟩ : Field)]) ++ [(⟨5, (Zm ((Zaj e.head).1))⟩ : Field)]) 0 []).1.length)) (Zb (Iv ((Z9 (([] ++ [(⟨1, (Zn e.kind).1⟩ : Field)]) ++ [(⟨5, (Zm ((Zaj e.head).1))⟩ : Field)]) 0 []).2)) (Za (Zc (Zq (Zr ?_)))))))
  have ee : (([] ++ [(⟨1, (Zn e.kind).1⟩ : Field)]) ++ [(⟨5, (Zm ((Zaj e.head).1))⟩ : Field)]) = Zdt e := by unfold Zdt; first | (rw [if_pos (by omega)]; done) | (rw [if_pos (by omega)]; rfl) | (rw [if_neg (by omega), if_pos (by omega)]; rfl) | (rw [if_neg (by omega), if_neg (by omega)]; rfl)
  have ez := Zp5 hr
  rw [← ee] at ez
  rw [show Zbh e = ((Z9 (([] ++ [(⟨1, (Zn e.kind).1⟩ : Field)]) ++ [(⟨5, (Zm ((Zaj e.head).1))⟩ : Field)]) 0 []).1, (Z9 (([] ++ [(⟨1, (Zn e.kind).1⟩ : Field)]) ++ [(⟨5, (Zm ((Zaj e.head).1))⟩ : Field)]) 0 []).2) from by rw [ez, ee]; exact if_pos hr]
  exact Zav [4] (v := .tuple #[slv 4 0 ((Z9 (([] ++ [(⟨1, (Zn e.kind).1⟩ : Field)]) ++ [(⟨5, (Zm ((Zaj e.head).1))⟩ : Field)]) 0 []).1.length) ((Z9 (([] ++ [(⟨1, (Zn e.kind).1⟩ : Field)]) ++ [(⟨5, (Zm ((Zaj e.head).1))⟩ : Field)]) 0 []).1.length), Iv ((Z9 (([] ++ [(⟨1, (Zn e.kind).1⟩ : Field)]) ++ [(⟨5, (Zm ((Zaj e.head).1))⟩ : Field)]) 0 []).2)]) rfl (by kernel_rfl) rfl rfl (by decide) (by simp [Za0, Zah]) ⟨⟨rfl, rfl, rfl, by first | omega | exact Nat.le_refl _ | exact Nat.zero_le _ | (dsimp only; omega), by first | omega | exact Nat.le_refl _ | exact Nat.zero_le _ | (dsimp only; omega)⟩, rfl, trivial⟩
  refine Zl (vx := Iv e.kind) (vy := Iv 2) rfl rfl (.bool false) rfl rfl (Zer (by omega)) ?_
  refine Zb (.bool false) (Za (Zc (Zu rfl (Zf (Zg ?_)))))
  refine Zl (vx := Iv e.kind) (vy := Iv 3) rfl rfl (.bool true) rfl rfl (Zdn (by omega)) ?_
  refine Zb (.bool true) (Za (Zc (Zx rfl (Zf (Zg (Zh (b := 0) (o := 0) (n := 73) (o' := 73) (Zp (p := pt 0 73) (v := Zcb e.claim) ?_)))))))
  refine Z2 (e := []) (nid := 3) (Zwt (G := G) e.claim) (vals := [Zcb e.claim]) (v := .tuple #[slv 3 0 ((Zb2 e.claim).1.length) ((Zb2 e.claim).1.length), Iv ((Zb2 e.claim).2)]) (H' := [bxB 109 (Zcs e), rfB (slv 2 0 1 1), rwB cFd ([] ++ [(⟨1, (Zn e.kind).1⟩ : Field)]), Zah ((Zb2 e.claim).1), hole]) rfl rfl rfl rfl rfl rfl rfl ⟨⟨rfl, trivial⟩, trivial, rfl, rfl, rfl⟩ (by kernel_rfl) (by kernel_rfl) ?_
  refine Zd (.tuple #[slv 3 0 ((Zb2 e.claim).1.length) ((Zb2 e.claim).1.length), Iv ((Zb2 e.claim).2)]) (Zw (vs := #[slv 3 0 ((Zb2 e.claim).1.length) ((Zb2 e.claim).1.length), Iv ((Zb2 e.claim).2)]) (v := slv 3 0 ((Zb2 e.claim).1.length) ((Zb2 e.claim).1.length)) (Zw (vs := #[slv 3 0 ((Zb2 e.claim).1.length) ((Zb2 e.claim).1.length), Iv ((Zb2 e.claim).2)]) (v := Iv ((Zb2 e.claim).2)) (Zb (slv 3 0 ((Zb2 e.claim).1.length) ((Zb2 e.claim).1.length)) (Zb (Iv ((Zb2 e.claim).2)) (Za (Zc (Zg (Zd (slv 3 0 ((Zb2 e.claim).1.length) ((Zb2 e.claim).1.length)) ?_))))))))
  refine Ze2 (p := slv 3 0 ((Zb2 e.claim).1.length) ((Zb2 e.claim).1.length)) (v := .string (Zm ((Zb2 e.claim).1))) rfl rfl rfl (Zdu rfl rfl rfl rfl rfl (by omega)) ?_
  refine Zdq (e := [some (1, 0), some (2, 0)]) (nid := 0) (Zlr (G := G) ([] ++ [(⟨1, (Zn e.kind).1⟩ : Field)]) 1 6 (Zm ((Zb2 e.claim).1)) rfl (by omega)) (vals := [pt 1 0, Iv 6, .string (Zm ((Zb2 e.claim).1))]) (v := .tuple #[]) (H' := [bxB 109 (Zcs e), rfB (slv 2 0 2 2), rwB cFd (([] ++ [(⟨1, (Zn e.kind).1⟩ : Field)]) ++ [(⟨6, (Zm ((Zb2 e.claim).1))⟩ : Field)]), Zah ((Zb2 e.claim).1), hole]) rfl rfl rfl rfl rfl rfl ⟨⟨⟨rfl, rfl⟩, rfl, rfl, trivial⟩, ⟨(Zbd rfl rfl rfl rfl), (Zbd rfl rfl rfl rfl), trivial⟩, rfl, rfl, rfl, Nat.le_refl _⟩ (by kernel_rfl) rfl (by kernel_rfl) ?_
  refine Za (Z4 (Zc (Zf (Zg ?_))))
  refine Zad (p := pt 1 0) (v := slv 2 0 2 2) rfl rfl rfl rfl ?_
  refine Z2 (e := [some (2, 0)]) (nid := 4) (Zhl (G := G) (([] ++ [(⟨1, (Zn e.kind).1⟩ : Field)]) ++ [(⟨6, (Zm ((Zb2 e.claim).1))⟩ : Field)]) 2 2 rfl (by omega) (by omega)) (vals := [slv 2 0 2 2]) (v := .tuple #[slv 4 0 ((Z9 (([] ++ [(⟨1, (Zn e.kind).1⟩ : Field)]) ++ [(⟨6, (Zm ((Zb2 e.claim).1))⟩ : Field)]) 0 []).1.length) ((Z9 (([] ++ [(⟨1, (Zn e.kind).1⟩ : Field)]) ++ [(⟨6, (Zm ((Zb2 e.claim).1))⟩ : Field)]) 0 []).1.length), Iv ((Z9 (([] ++ [(⟨1, (Zn e.kind).1⟩ : Field)]) ++ [(⟨6, (Zm ((Zb2 e.claim).1))⟩ : Field)]) 0 []).2)]) (H' := [bxB 109 (Zcs e), rfB (slv 2 0 2 2), rwB cFd (([] ++ [(⟨1, (Zn e.kind).1⟩ : Field)]) ++ [(⟨6, (Zm ((Zb2 e.claim).1))⟩ : Field)]), Zah ((Zb2 e.claim).1), Zah ((Z9 (([] ++ [(⟨1, (Zn e.kind).1⟩ : Field)]) ++ [(⟨6, (Zm ((Zb2 e.claim).1))⟩ : Field)]) 0 []).1)]) rfl rfl rfl rfl rfl rfl rfl ⟨⟨⟨rfl, rfl, rfl, by first | omega | exact Nat.le_refl _, by first | omega | exact Nat.le_refl _⟩, trivial⟩, ⟨(Zgb rfl), trivial⟩, rfl, rfl, rfl⟩ (by kernel_rfl) (by kernel_rfl) ?_
  refine Zw (vs := #[slv 4 0 ((Z9 (([] ++ [(⟨1, (Zn e.kind).1⟩ : Field)]) ++ [(⟨6, (Zm ((Zb2 e.claim).1))⟩ : Field)]) 0 []).1.length) ((Z9 (([] ++ [(⟨1, (Zn e.kind).1⟩ : Field)]) ++ [(⟨6, (Zm ((Zb2 e.claim).1))⟩ : Field)]) 0 []).1.length), Iv ((Z9 (([] ++ [(⟨1, (Zn e.kind).1⟩ : Field)]) ++ [(⟨6, (Zm ((Zb2 e.claim).1))⟩ : Field)]) 0 []).2)]) (v := slv 4 0 ((Z9 (([] ++ [(⟨1, (Zn e.kind).1⟩ : Field)]) ++ [(⟨6, (Zm ((Zb2 e.claim).1))⟩ : Field)]) 0 []).1.length) ((Z9 (([] ++ [(⟨1, (Zn e.kind).1⟩ : Field)]) ++ [(⟨6, (Zm ((Zb2 e.claim).1))⟩ : Field)]) 0 []).1.length)) (Zw (vs := #[slv 4 0 ((Z9 (([] ++ [(⟨1, (Zn e.kind).1⟩ : Field)]) ++ [(⟨6, (Zm ((Zb2 e.claim).1))⟩ : Field)]) 0 []).1.length) ((Z9 (([] ++ [(⟨1, (Zn e.kind).1⟩ : Field)]) ++ [(⟨6, (Zm ((Zb2 e.claim).1))⟩ : Field)]) 0 []).1.length), Iv ((Z9 (([] ++ [(⟨1, (Zn e.kind).1⟩ : Field)]) ++ [(⟨6, (Zm ((Zb2 e.claim).1))⟩ : Field)]) 0 []).2)]) (v := Iv ((Z9 (([] ++ [(⟨1, (Zn e.kind).1⟩ : Field)]) ++ [(⟨6, (Zm ((Zb2 e.claim).1))⟩ : Field)]) 0 []).2)) (Zb (slv 4 0 ((Z9 (([] ++ [(⟨1, (Zn e.kind).1⟩ : Field)]) ++ [(⟨6, (Zm ((Zb2 e.claim).1))⟩ : Field)]) 0 []).1.length) ((Z9 (([] ++ [(⟨1, (Zn e.kind).1⟩ : Field)]) ++ [(⟨6, (Zm ((Zb2 e.claim).1))⟩ : Field)]) 0 []).1.length)) (Zb (Iv ((Z9 (([] ++ [(⟨1, (Zn e.kind).1⟩ : Field)]) ++ [(⟨6, (Zm ((Zb2 e.claim).1))⟩ : Field)]) 0 []).2)) (Za (Zc (Zq (Zr ?_)))))))
  have ee : (([] ++ [(⟨1, (Zn e.kind).1⟩ : Field)]) ++ [(⟨6, (Zm ((Zb2 e.claim).1))⟩ : Field)]) = Zdt e := by unfold Zdt; first | (rw [if_pos (by omega)]; done) | (rw [if_pos (by omega)]; rfl) | (rw [if_neg (by omega), if_pos (by omega)]; rfl) | (rw [if_neg (by omega), if_neg (by omega)]; rfl)
  have ez := Zp5 hr
  rw [← ee] at ez
  rw [show Zbh e = ((Z9 (([] ++ [(⟨1, (Zn e.kind).1⟩ : Field)]) ++ [(⟨6, (Zm ((Zb2 e.claim).1))⟩ : Field)]) 0 []).1, (Z9 (([] ++ [(⟨1, (Zn e.kind).1⟩ : Field)]) ++ [(⟨6, (Zm ((Zb2 e.claim).1))⟩ : Field)]) 0 []).2) from by rw [ez, ee]; exact if_pos hr]
  exact Zav [4] (v := .tuple #[slv 4 0 ((Z9 (([] ++ [(⟨1, (Zn e.kind).1⟩ : Field)]) ++ [(⟨6, (Zm ((Zb2 e.claim).1))⟩ : Field)]) 0 []).1.length) ((Z9 (([] ++ [(⟨1, (Zn e.kind).1⟩ : Field)]) ++ [(⟨6, (Zm ((Zb2 e.claim).1))⟩ : Field)]) 0 []).1.length), Iv ((Z9 (([] ++ [(⟨1, (Zn e.kind).1⟩ : Field)]) ++ [(⟨6, (Zm ((Zb2 e.claim).1))⟩ : Field)]) 0 []).2)]) rfl (by kernel_rfl) rfl rfl (by decide) (by simp [Za0, Zah]) ⟨⟨rfl, rfl, rfl, by first | omega | exact Nat.le_refl _ | exact Nat.zero_le _ | (dsimp only; omega), by first | omega | exact Nat.le_refl _ | exact Nat.zero_le _ | (dsimp only; omega)⟩, rfl, trivial⟩
theorem Zxp (x : Item) : Z6 Tryz.prog G 74 [Za9 x] [] (.tuple #[slv 0 0 (Zca x).1.length (Zca x).1.length, Iv (Zca x).2]) [Zah (Zca x).1] := by
  refine Za8 (fn := Tryz.f74) (nt := 31) rfl rfl rfl rfl ?_
  refine Zaa 5 (H' := [hole, hole, hole, hole, hole]) rfl ?_
  refine Zf (Zg (Zbq (v := Za9 x) (b := bxB 110 (Zs x)) (nid := 0) (H' := [bxB 110 (Zs x), hole, hole, hole, hole]) (Zb (.slice none 0 0) (Zb (Iv 0) (Za (Zc (Zf (Zg (Zh (b := 0) (o := 0) (n := 1) (o' := 1) (Zp (p := pt 0 1) (v := Zdf x.entry) ?_))))))))))
  refine Z2 (e := []) (nid := 1) (Z6a (G := G) x.entry) (vals := [Zdf x.entry]) (v := .tuple #[slv 1 0 ((Zbh x.entry).1.length) ((Zbh x.entry).1.length), Iv ((Zbh x.entry).2)]) (H' := [bxB 110 (Zs x), Zah ((Zbh x.entry).1), hole, hole, hole]) rfl rfl rfl rfl rfl rfl rfl ⟨⟨rfl, trivial⟩, trivial, rfl, rfl, rfl⟩ (by kernel_rfl) (by kernel_rfl) ?_
  refine Zd (.tuple #[slv 1 0 ((Zbh x.entry).1.length) ((Zbh x.entry).1.length), Iv ((Zbh x.entry).2)]) (Zw (vs := #[slv 1 0 ((Zbh x.entry).1.length) ((Zbh x.entry).1.length), Iv ((Zbh x.entry).2)]) (v := slv 1 0 ((Zbh x.entry).1.length) ((Zbh x.entry).1.length)) (Zw (vs := #[slv 1 0 ((Zbh x.entry).1.length) ((Zbh x.entry).1.length), Iv ((Zbh x.entry).2)]) (v := Iv ((Zbh x.entry).2)) (Zb (slv 1 0 ((Zbh x.entry).1.length) ((Zbh x.entry).1.length)) (Zb (Iv ((Zbh x.entry).2)) (Za (Zc (Zf (Zf (Zg (Zd (Iv ((Zbh x.entry).2)) ?_))))))))))
  by_cases h1 : ((Zbh x.entry).2) ≠ 0
  refine Zl (vx := Iv ((Zbh x.entry).2)) (vy := Iv 0) rfl rfl (.bool true) rfl rfl (Zea (by omega)) ?_
  refine Zd (.bool true) (Ze (Ze (Ze (Ze (Zi (.bool true) (Za (Zc (Zx rfl (Zf (Zg (Zb (.slice none 0 0) (Zb (Iv 60) (Za (Zc ?_))))))))))))))
  refine Zbo (Zb6.nilTmp (i := 2) (b := 2) true 1 rfl (by decide) rfl) ?_
  refine Zq (Zz (Zr ?_))
  rw [show Zca x = ([], 60) from if_neg (fun q => by have q1 := q.1; have q2 := q.2.1; first | omega | (have := Zy5 q.2.2; omega))]
  exact Zav [2] (v := .tuple #[slv 2 0 0 0, Iv 60]) rfl (by kernel_rfl) rfl rfl (by decide) (by simp [Za0, Zah]) ⟨⟨rfl, rfl, rfl, by first | omega | exact Nat.le_refl _ | exact Nat.zero_le _ | (dsimp only; omega), by first | omega | exact Nat.le_refl _ | exact Nat.zero_le _ | (dsimp only; omega)⟩, rfl, trivial⟩
  refine Zl (vx := Iv ((Zbh x.entry).2)) (vy := Iv 0) rfl rfl (.bool false) rfl rfl (Zdz (by omega)) ?_
  refine Zd (.bool false) (Zh (b := 0) (o := 0) (n := 0) (o' := 0) (Zp (p := pt 0 0) (v := Iv x.epoch) ?_))
  by_cases h2 : 1 ≤ x.epoch
  by_cases h3 : x.epoch ≤ 900000000
  refine Zo ((Zbk (G := G) x.epoch 1 900000000).res (congrArg Value.bool (Zbc (by omega) (by omega)))) (vals := [Iv x.epoch, Iv 1, Iv 900000000]) (res' := .bool true) rfl rfl rfl rfl rfl rfl ?_
  refine Zg5 (vx := .bool true) rfl rfl (.bool false) rfl Zd1 ?_
  refine Zi (.bool false) (Za (Zc (Zu rfl (Z0 (Zc (Zf (Zg (Zam (b := rfB (.slice none 0 0)) (nid := 2) (H' := [bxB 110 (Zs x), Zah ((Zbh x.entry).1), rfB (.slice none 0 0), hole, hole]) (Za (Zc (Zf ?_)))))))))))
  refine Zbo (Zb6.nilCell (k := 2) (j := 0) (b := 3) true 2 rfl (by decide) rfl (by show 0 < 1; decide) rfl rfl) ?_
  refine Zg (Zh (b := 0) (o := 0) (n := 0) (o' := 0) (Zp (p := pt 0 0) (v := Iv x.epoch) ?_))
  refine Zdq (e := [some (2, 0), some (3, 0)]) (nid := 0) (Zm6 (G := G) [] 0 1 x.epoch rfl (by omega) (by omega) (by omega)) (vals := [pt 2 0, Iv 1, Iv x.epoch]) (v := .tuple #[]) (H' := [bxB 110 (Zs x), Zah ((Zbh x.entry).1), rfB (slv 3 0 1 1), rwB cFd ([] ++ [(⟨1, (Zn x.epoch).1⟩ : Field)]), hole]) rfl rfl rfl rfl rfl rfl ⟨⟨⟨rfl, rfl⟩, rfl, rfl, trivial⟩, ⟨(Zbd rfl rfl rfl rfl), (Zbd rfl rfl rfl rfl), trivial⟩, rfl, rfl, rfl, Nat.le_refl _⟩ (by kernel_rfl) rfl (by kernel_rfl) ?_
  refine Za (Zc (Zf (Zg (Zd (slv 1 0 ((Zbh x.entry).1.length) ((Zbh x.entry).1.length)) ?_))))
  refine Ze2 (p := slv 1 0 ((Zbh x.entry).1.length) ((Zbh x.entry).1.length)) (v := .string (Zm ((Zbh x.entry).1))) rfl rfl rfl (Zdu rfl rfl rfl rfl rfl (by omega)) ?_
  refine Zdq (e := [some (2, 0), some (3, 0)]) (nid := 0) (Zlr (G := G) ([] ++ [(⟨1, (Zn x.epoch).1⟩ : Field)]) 1 2 (Zm ((Zbh x.entry).1)) rfl (by omega)) (vals := [pt 2 0, Iv 2, .string (Zm ((Zbh x.entry).1))]) (v := .tuple #[]) (H' := [bxB 110 (Zs x), Zah ((Zbh x.entry).1), rfB (slv 3 0 2 2), rwB cFd (([] ++ [(⟨1, (Zn x.epoch).1⟩ : Field)]) ++ [(⟨2, (Zm ((Zbh x.entry).1))⟩ : Field)]), hole]) rfl rfl rfl rfl rfl rfl ⟨⟨⟨rfl, rfl⟩, rfl, rfl, trivial⟩, ⟨(Zbd rfl rfl rfl rfl), (Zbd rfl rfl rfl rfl), trivial⟩, rfl, rfl, rfl, Nat.le_refl _⟩ (by kernel_rfl) rfl (by kernel_rfl) ?_
  refine Za (Zc (Zf (Zg ?_)))
  refine Zad (p := pt 2 0) (v := slv 3 0 2 2) rfl rfl rfl rfl ?_
  refine Z2 (e := [some (3, 0)]) (nid := 4) (Zhl (G := G) (([] ++ [(⟨1, (Zn x.epoch).1⟩ : Field)]) ++ [(⟨2, (Zm ((Zbh x.entry).1))⟩ : Field)]) 2 2 rfl (by omega) (by omega)) (vals := [slv 3 0 2 2]) (v := .tuple #[slv 4 0 ((Z9 (([] ++ [(⟨1, (Zn x.epoch).1⟩ : Field)]) ++ [(⟨2, (Zm ((Zbh x.entry).1))⟩ : Field)]) 0 []).1.length) ((Z9 (([] ++ [(⟨1, (Zn x.epoch).1⟩ : Field)]) ++ [(⟨2, (Zm ((Zbh x.entry).1))⟩ : Field)]) 0 []).1.length), Iv ((Z9 (([] ++ [(⟨1, (Zn x.epoch).1⟩ : Field)]) ++ [(⟨2, (Zm ((Zbh x.entry).1))⟩ : Field)]) 0 []).2)]) (H' := [bxB 110 (Zs x), Zah ((Zbh x.entry).1), rfB (slv 3 0 2 2), rwB cFd (([] ++ [(⟨1, (Zn x.epoch).1⟩ : Field)]) ++ [(⟨2, (Zm ((Zbh x.entry).1))⟩ : Field)]), Zah ((Z9 (([] ++ [(⟨1, (Zn x.epoch).1⟩ : Field)]) ++ [(⟨2, (Zm ((Zbh x.entry).1))⟩ : Field)]) 0 []).1)]) rfl rfl rfl rfl rfl rfl rfl ⟨⟨⟨rfl, rfl, rfl, by first | omega | exact Nat.le_refl _, by first | omega | exact Nat.le_refl _⟩, trivial⟩, ⟨(Zgb rfl), trivial⟩, rfl, rfl, rfl⟩ (by kernel_rfl) (by kernel_rfl) ?_
  refine Zw (vs := #[slv 4 0 ((Z9 (([] ++ [(⟨1, (Zn x.epoch).1⟩ : Field)]) ++ [(⟨2, (Zm ((Zbh x.entry).1))⟩ : Field)]) 0 []).1.length) ((Z9 (([] ++ [(⟨1, (Zn x.epoch).1⟩ : Field)]) ++ [(⟨2, (Zm ((Zbh x.entry).1))⟩ : Field)]) 0 []).1.length), Iv ((Z9 (([] ++ [(⟨1, (Zn x.epoch).1⟩ : Field)]) ++ [(⟨2, (Zm ((Zbh x.entry).1))⟩ : Field)]) 0 []).2)]) (v := slv 4 0 ((Z9 (([] ++ [(⟨1, (Zn x.epoch).1⟩ : Field)]) ++ [(⟨2, (Zm ((Zbh x.entry).1))⟩ : Field)]) 0 []).1.length) ((Z9 (([] ++ [(⟨1, (Zn x.epoch).1⟩ : Field)]) ++ [(⟨2, (Zm ((Zbh x.entry).1))⟩ : Field)]) 0 []).1.length)) (Zw (vs := #[slv 4 0 ((Z9 (([] ++ [(⟨1, (Zn x.epoch).1⟩ : Field)]) ++ [(⟨2, (Zm ((Zbh x.entry).1))⟩ : Field)]) 0 []).1.length) ((Z9 (([] ++ [(⟨1, (Zn x.epoch).1⟩ : Field)]) ++ [(⟨2, (Zm ((Zbh x.entry).1))⟩ : Field)]) 0 []).1.length), Iv ((Z9 (([] ++ [(⟨1, (Zn x.epoch).1⟩ : Field)]) ++ [(⟨2, (Zm ((Zbh x.entry).1))⟩ : Field)]) 0 []).2)]) (v := Iv ((Z9 (([] ++ [(⟨1, (Zn x.epoch).1⟩ : Field)]) ++ [(⟨2, (Zm ((Zbh x.entry).1))⟩ : Field)]) 0 []).2)) (Zb (slv 4 0 ((Z9 (([] ++ [(⟨1, (Zn x.epoch).1⟩ : Field)]) ++ [(⟨2, (Zm ((Zbh x.entry).1))⟩ : Field)]) 0 []).1.length) ((Z9 (([] ++ [(⟨1, (Zn x.epoch).1⟩ : Field)]) ++ [(⟨2, (Zm ((Zbh x.entry).1))⟩ : Field)]) 0 []).1.length)) (Zb (Iv ((Z9 (([] ++ [(⟨1, (Zn x.epoch).1⟩ : Field)]) ++ [(⟨2, (Zm ((Zbh x.entry).1))⟩ : Field)]) 0 []).2)) (Za (Zc (Zq (Zr ?_)))))))
  have ee : (([] ++ [(⟨1, (Zn x.epoch).1⟩ : Field)]) ++ [(⟨2, (Zm ((Zbh x.entry).1))⟩ : Field)]) = Zrj x := rfl
  have ez := Z4k x
  rw [← ee] at ez
  rw [show Zca x = ((Z9 (([] ++ [(⟨1, (Zn x.epoch).1⟩ : Field)]) ++ [(⟨2, (Zm ((Zbh x.entry).1))⟩ : Field)]) 0 []).1, (Z9 (([] ++ [(⟨1, (Zn x.epoch).1⟩ : Field)]) ++ [(⟨2, (Zm ((Zbh x.entry).1))⟩ : Field)]) 0 []).2) from by rw [ez, ee]; exact if_pos ⟨by omega, by omega, putE_1 (by omega)⟩]
  exact Zav [4] (v := .tuple #[slv 4 0 ((Z9 (([] ++ [(⟨1, (Zn x.epoch).1⟩ : Field)]) ++ [(⟨2, (Zm ((Zbh x.entry).1))⟩ : Field)]) 0 []).1.length) ((Z9 (([] ++ [(⟨1, (Zn x.epoch).1⟩ : Field)]) ++ [(⟨2, (Zm ((Zbh x.entry).1))⟩ : Field)]) 0 []).1.length), Iv ((Z9 (([] ++ [(⟨1, (Zn x.epoch).1⟩ : Field)]) ++ [(⟨2, (Zm ((Zbh x.entry).1))⟩ : Field)]) 0 []).2)]) rfl (by kernel_rfl) rfl rfl (by decide) (by simp [Za0, Zah]) ⟨⟨rfl, rfl, rfl, by first | omega | exact Nat.le_refl _ | exact Nat.zero_le _ | (dsimp only; omega), by first | omega | exact Nat.le_refl _ | exact Nat.zero_le _ | (dsimp only; omega)⟩, rfl, trivial⟩
  refine Zo ((Zbk (G := G) x.epoch 1 900000000).res (congrArg Value.bool (Z8 (by omega)))) (vals := [Iv x.epoch, Iv 1, Iv 900000000]) (res' := .bool false) rfl rfl rfl rfl rfl rfl ?_
  refine Zg5 (vx := .bool false) rfl rfl (.bool true) rfl Zd1 ?_
  refine Zi (.bool true) (Za (Zc (Zx rfl (Zf (Zg (Zb (.slice none 0 0) (Zb (Iv 60) (Za (Zc ?_)))))))))
  refine Zbo (Zb6.nilTmp (i := 2) (b := 2) true 1 rfl (by decide) rfl) ?_
  refine Zq (Zz (Zr ?_))
  rw [show Zca x = ([], 60) from if_neg (fun q => by have q1 := q.1; have q2 := q.2.1; first | omega | (have := Zy5 q.2.2; omega))]
  exact Zav [2] (v := .tuple #[slv 2 0 0 0, Iv 60]) rfl (by kernel_rfl) rfl rfl (by decide) (by simp [Za0, Zah]) ⟨⟨rfl, rfl, rfl, by first | omega | exact Nat.le_refl _ | exact Nat.zero_le _ | (dsimp only; omega), by first | omega | exact Nat.le_refl _ | exact Nat.zero_le _ | (dsimp only; omega)⟩, rfl, trivial⟩
  refine Zo ((Zbk (G := G) x.epoch 1 900000000).res (congrArg Value.bool (Z8 (by omega)))) (vals := [Iv x.epoch, Iv 1, Iv 900000000]) (res' := .bool false) rfl rfl rfl rfl rfl rfl ?_
  refine Zg5 (vx := .bool false) rfl rfl (.bool true) rfl Zd1 ?_
  refine Zi (.bool true) (Za (Zc (Zx rfl (Zf (Zg (Zb (.slice none 0 0) (Zb (Iv 60) (Za (Zc ?_)))))))))
  refine Zbo (Zb6.nilTmp (i := 2) (b := 2) true 1 rfl (by decide) rfl) ?_
  refine Zq (Zz (Zr ?_))
  rw [show Zca x = ([], 60) from if_neg (fun q => by have q1 := q.1; have q2 := q.2.1; first | omega | (have := Zy5 q.2.2; omega))]
  exact Zav [2] (v := .tuple #[slv 2 0 0 0, Iv 60]) rfl (by kernel_rfl) rfl rfl (by decide) (by simp [Za0, Zah]) ⟨⟨rfl, rfl, rfl, by first | omega | exact Nat.le_refl _ | exact Nat.zero_le _ | (dsimp only; omega), by first | omega | exact Nat.le_refl _ | exact Nat.zero_le _ | (dsimp only; omega)⟩, rfl, trivial⟩
theorem Zyq (kk : Nat → BitVec 32) (hG : G 3 = some (Zag w32 64 kk)) (s : ByteArray) (hs : s.size ≤ 1000000) : Z6 Tryz.prog G 75 [.string s] [] (dgV (lfT kk s)) [] := by
  refine Za8 (fn := Tryz.f75) (nt := 6) rfl rfl rfl rfl ?_
  refine Zaa 2 (H' := [hole, hole]) rfl ?_
  refine Zf (Zg (Zam (b := dgB dz) (nid := 0) (H' := [dgB dz, hole]) (Za (Zc (Zf (Zg (Zd (.string s) ?_)))))))
  refine Zdb (vs := [(0, .string Zff), (1, .string s)]) (v := slv 1 0 2 2) (blk := txB [Zff, s]) (nid := 1) (H' := [dgB dz, txB [Zff, s]]) rfl rfl rfl (by kernel_rfl) (by kernel_rfl) ?_
  refine Z2 (e := [some (1, 0)]) (nid := 0) (Zvv (G := G) kk hG [Zff, s] 2 (by simp) (by intro x hx; simp at hx; rcases hx with rfl | rfl <;> first | omega | (show 1 ≤ _; omega))) (vals := [slv 1 0 2 2]) (v := dgV (Zcq kk (Zch [Zff, s]))) (H' := [dgB dz, txB [Zff, s]]) rfl rfl rfl rfl rfl rfl rfl ⟨⟨⟨rfl, rfl, rfl, by first | omega | exact Nat.le_refl _, by first | omega | exact Nat.le_refl _⟩, trivial⟩, ⟨(Zmt rfl), trivial⟩, rfl, rfl, rfl⟩ (by kernel_rfl) (by kernel_rfl) ?_
  refine Z7 (p := pt 0 0) (v := dgV (Zcq kk (Zch [Zff, s]))) (b := 0) (blk := dgB (Zcq kk (Zch [Zff, s]))) (H' := [dgB (Zcq kk (Zch [Zff, s])), txB [Zff, s]]) (Za (Zc (Zq (Zr ?_))))
  exact Zk (v := dgV (Zcq kk (Zch [Zff, s]))) (by kernel_rfl) rfl rfl (by kernel_rfl) (Zbm (Zbu fun _ => rfl) rfl)
theorem Z0m (kk : Nat → BitVec 32) (hG : G 3 = some (Zag w32 64 kk)) (x : Item) : Z6 Tryz.prog G 47 [Za9 x] [] (.tuple #[dgV (Zat kk x).1, Iv (Zat kk x).2]) [] := by
 refine Za8 (fn := Tryz.f47) (nt := 18) rfl rfl rfl rfl ?_
 refine Zaa 3 (H' := [hole, hole, hole]) rfl ?_
 refine Zf (Zg (Zbq (v := Za9 x) (b := bxB 110 (Zs x)) (nid := 0) (H' := [bxB 110 (Zs x), hole, hole]) (Zam (b := dgB dz) (nid := 1) (H' := [bxB 110 (Zs x), dgB dz, hole]) (Zb (Iv 0) (Za (Zc (Zf (Zg (Zp (p := pt 0 0) (v := Za9 x) ?_)))))))))
 refine Z2 (e := []) (nid := 2) (Zxp (G := G) x) (vals := [Za9 x]) (v := .tuple #[slv 2 0 ((Zca x).1.length) ((Zca x).1.length), Iv ((Zca x).2)]) (H' := [bxB 110 (Zs x), dgB dz, Zah ((Zca x).1)]) rfl rfl rfl rfl rfl rfl rfl ⟨⟨rfl, trivial⟩, trivial, rfl, rfl, rfl⟩ (by kernel_rfl) (by kernel_rfl) ?_
 refine Zd (.tuple #[slv 2 0 ((Zca x).1.length) ((Zca x).1.length), Iv ((Zca x).2)]) (Zw (vs := #[slv 2 0 ((Zca x).1.length) ((Zca x).1.length), Iv ((Zca x).2)]) (v := slv 2 0 ((Zca x).1.length) ((Zca x).1.length)) (Zw (vs := #[slv 2 0 ((Zca x).1.length) ((Zca x).1.length), Iv ((Zca x).2)]) (v := Iv ((Zca x).2)) (Zb (slv 2 0 ((Zca x).1.length) ((Zca x).1.length)) (Zb (Iv ((Zca x).2)) (Za (Zc (Zf (Zf (Zg (Zd (Iv ((Zca x).2)) ?_))))))))))
 by_cases h1 : ((Zca x).2) ≠ 0
 refine Zl (vx := Iv ((Zca x).2)) (vy := Iv 0) rfl rfl (.bool true) rfl rfl (Zea (by omega)) ?_
 refine Za (Zc (Zx rfl (Zf (Zg ?_))))
 refine Za5 (vs := []) (v := dgV dz) rfl rfl rfl (by kernel_rfl) ?_
 refine Zd (Iv ((Zca x).2)) (Z7 (p := pt 1 0) (v := dgV dz) (b := 1) (blk := dgB dz) (H' := [bxB 110 (Zs x), dgB dz, Zah ((Zca x).1)]) (Zb (Iv ((Zca x).2)) (Za (Zc (Zq (Zz (Zr ?_)))))))
 rw [show Zat kk x = (dz, (Zca x).2) from by rw [Z7x (by omega)]; exact if_neg (fun q => by have := Z24 q; omega)]
 exact Zk (v := .tuple #[dgV dz, Iv ((Zca x).2)]) (by kernel_rfl) rfl rfl (by kernel_rfl) ⟨(Zbm (Zbu fun _ => rfl) rfl), rfl, trivial⟩
 refine Zl (vx := Iv ((Zca x).2)) (vy := Iv 0) rfl rfl (.bool false) rfl rfl (Zdz (by omega)) ?_
 refine Za (Zc (Zu rfl (Z0 (Zc (Zf (Zg (Zd (slv 2 0 ((Zca x).1.length) ((Zca x).1.length)) ?_)))))))
 refine Ze2 (p := slv 2 0 ((Zca x).1.length) ((Zca x).1.length)) (v := .string (Zm ((Zca x).1))) rfl rfl rfl (Zdu rfl rfl rfl rfl rfl (by omega)) ?_
 refine Zo (Zyq (G := G) kk hG (Zm ((Zca x).1)) (by rw [Za1]; have := Zw0 x; omega)) (vals := [.string (Zm ((Zca x).1))]) (res' := dgV (lfT kk (Zm ((Zca x).1)))) rfl rfl rfl rfl rfl (by kernel_rfl) ?_
 refine Z7 (p := pt 1 0) (v := dgV (lfT kk (Zm ((Zca x).1)))) (b := 1) (blk := dgB (lfT kk (Zm ((Zca x).1)))) (H' := [bxB 110 (Zs x), dgB (lfT kk (Zm ((Zca x).1))), Zah ((Zca x).1)]) (Zb (Iv 0) (Za (Zc (Zq (Zr ?_)))))
 rw [show Zat kk x = (lfT kk (Zm (Zca x).1), 0) from if_pos (Z7m (by omega))]
 exact Zk (v := .tuple #[dgV (lfT kk (Zm ((Zca x).1))), Iv 0]) (by kernel_rfl) rfl rfl (by kernel_rfl) ⟨(Zbm (Zbu fun _ => rfl) rfl), rfl, trivial⟩
end Go.Flat
