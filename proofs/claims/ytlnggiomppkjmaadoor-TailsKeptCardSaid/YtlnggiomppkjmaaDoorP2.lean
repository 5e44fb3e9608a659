/- Walks. -/
import Derived.Test.YtlnggiomppkjmaaDoorP1
set_option linter.unusedVariables false
set_option linter.unusedSimpArgs false
set_option maxRecDepth 20000
namespace Go.Flat
open Go.Proofs
variable {G : Glob}
def Ziw : ByteArray := ⟨#[0]⟩
theorem Zp3 (s : Signed) : (Zap s).1.length ≤ 1000 := by
 by_cases hm : Zt9 s
 ·rw [Zxf hm]
  have := Zgx (Zf7 0 (Zll s)) 0 []
  have h1 := Zay s.node
  have h2 := Ztq s.head
  simp only [Zll, Zf7, Zmh, Zb8, Zjl, List.length_nil] at this
  show (Zz (Zf7 0 (Zll s)) 0 []).1.length ≤ 1000
  simp only [Zll, Zf7]
  omega
 ·rw [Zxe hm]; exact Nat.zero_le _
def Zl1 (e : Entry) : List Field := if e.kind = 1 then [⟨1, (Zo e.kind).1⟩, ⟨2, (Zo e.client).1⟩, ⟨3, (Zo e.seq).1⟩, ⟨4, e.text⟩] else if e.kind = 2 then [⟨1, (Zo e.kind).1⟩, ⟨5, Zn (Zap e.head).1⟩] else [⟨1, (Zo e.kind).1⟩, ⟨6, Zn (Zb7 e.claim).1⟩]
theorem Zoj {e : Entry} (h : Zff e) : 1 ≤ e.kind ∧ e.kind ≤ 3 := by
 rcases h with q | q | q <;> have := q.1 <;> omega
theorem Zkl {e : Entry} (h : Zff e) (hk : e.kind = 1) : (1 ≤ e.client ∧ e.client ≤ 3) ∧ (1 ≤ e.seq ∧ e.seq ≤ 1000000) ∧ e.text.size ≤ 200 := by
 rcases h with q | q | q
 ·exact ⟨⟨q.2.1, q.2.2.1⟩, ⟨q.2.2.2.1, q.2.2.2.2.1⟩, q.2.2.2.2.2.1⟩
 ·have := q.1; omega
 ·have := q.1; omega
theorem Z31 (a b : Field) (ha : 0 < a.tag) (hab : a.tag < b.tag) (hb : b.tag ≤ 255) (h1 : a.data.size ≤ 65536) (h2 : b.data.size ≤ 65536) : (Zz [a, b] 0 []).2 = 0 := by
 have ea : Zew a 0 = 0 := by unfold Zew; rw [if_neg (by omega), if_neg (by omega), if_neg (by omega)]
 have eb : Zew b a.tag = 0 := by unfold Zew; rw [if_neg (by omega), if_neg (by omega), if_neg (by omega)]
 rw [Zz, if_pos ea, Zz, if_pos eb, Zz]
theorem Zqn {e : Entry} (h : Zff e) : (Zz (Zl1 e) 0 []).2 = 0 := by
 have hk := Zoj h
 have n1 := Zay e.kind
 unfold Zl1
 split
 ·rename_i h1
  have hu := Zkl h h1
  have n2 := Zay e.client
  have n3 := Zay e.seq
  have h := Zl7 [(Zo e.kind).1, (Zo e.client).1, (Zo e.seq).1, e.text] 0 [] (by simp) (by
   intro x hx
   simp only [List.mem_cons, List.not_mem_nil, or_false] at hx
   rcases hx with rfl | rfl | rfl | rfl <;> omega)
  show (Zz (Zf7 0 [(Zo e.kind).1, (Zo e.client).1, (Zo e.seq).1, e.text]) ((0 : Nat) : Int) []).2 = 0
  rw [h]
 ·split
  ·exact Z31 _ _ (by show (0 : Int) < 1; decide) (by show (1 : Int) < 5; decide) (by show (5 : Int) ≤ 255; decide) (by show (Zo e.kind).1.size ≤ 65536; omega) (by show (Zn (Zap e.head).1).size ≤ 65536; rw [Zb8]; have := Zp3 e.head; omega)
  ·exact Z31 _ _ (by show (0 : Int) < 1; decide) (by show (1 : Int) < 6; decide) (by show (6 : Int) ≤ 255; decide) (by show (Zo e.kind).1.size ≤ 65536; omega) (by show (Zn (Zb7 e.claim).1).size ≤ 65536; rw [Zb8]; have := Zsw e.claim; omega)
def Zbi (e : Entry) : Bs × Int := if Zff e then ((Zz (Zl1 e) 0 []).1, 0) else ([], 60)
theorem Zug {e : Entry} (h : Zff e) : (Zbi e).2 = 0 := by rw [show Zbi e = _ from if_pos h]
theorem Z35 {e : Entry} (h : (Zbi e).2 = 0) : Zff e := by
 refine Decidable.byContradiction fun q => ?_
 rw [show Zbi e = ([], 60) from if_neg q] at h; exact absurd h (by decide)
theorem Zsx (e : Entry) : (Zbi e).1.length ≤ 2000 := by
 by_cases h : Zff e
 ·rw [show Zbi e = _ from if_pos h]
  show (Zz (Zl1 e) 0 []).1.length ≤ 2000
  have h1 := Zgx (Zl1 e) 0 []
  have n1 := Zay e.kind
  have n2 := Zay e.client
  have n3 := Zay e.seq
  have n4 := Zp3 e.head
  have n5 := Zsw e.claim
  have h2 : Zmh (Zl1 e) ≤ 2000 := by
   unfold Zl1
   split
   ·have := (Zkl h (by assumption)).2.2
    simp only [Zmh]; omega
   ·split
    ·simp only [Zmh, Zb8]; omega
    ·simp only [Zmh, Zb8]; omega
  simp only [List.length_nil] at h1
  omega
 ·rw [show Zbi e = ([], 60) from if_neg h]; exact Nat.zero_le _
def Zn1 (x : Item) : List Field := [⟨1, (Zo x.epoch).1⟩, ⟨2, Zn (Zbi x.entry).1⟩]
theorem Zyz (x : Item) : (Zz (Zn1 x) 0 []).2 = 0 := by
 have n1 := Zay x.epoch
 have n2 := Zsx x.entry
 exact Z31 _ _ (by show (0 : Int) < 1; decide) (by show (1 : Int) < 2; decide) (by show (2 : Int) ≤ 255; decide) (by show (Zo x.epoch).1.size ≤ 65536; omega) (by show (Zn (Zbi x.entry).1).size ≤ 65536; rw [Zb8]; omega)
def Zcb (x : Item) : Bs × Int := if Zcr x then ((Zz (Zn1 x) 0 []).1, 0) else ([], 60)
theorem Zzz {x : Item} (h : Zcr x) : (Zcb x).2 = 0 := by rw [show Zcb x = _ from if_pos h]
theorem Z36 {x : Item} (h : (Zcb x).2 = 0) : Zcr x := by
 refine Decidable.byContradiction fun q => ?_
 rw [show Zcb x = ([], 60) from if_neg q] at h; exact absurd h (by decide)
theorem Z37 {x : Item} (h : (Zcb x).2 ≠ 0) : (Zcb x).2 = 60 := by
 by_cases q : Zcr x
 ·exact absurd (Zzz q) h
 ·rw [show Zcb x = ([], 60) from if_neg q]
theorem Zz0 (x : Item) : (Zcb x).1.length ≤ 2100 := by
 unfold Zcb
 split
 ·have h1 := Zgx (Zn1 x) 0 []
  have n1 := Zay x.epoch
  have n2 := Zsx x.entry
  simp only [Zn1, Zmh, Zb8, List.length_nil] at h1
  show (Zz (Zn1 x) 0 []).1.length ≤ 2100
  simp only [Zn1]; omega
 ·exact Nat.zero_le _
def lfT (kk : Nat → BitVec 32) (s : ByteArray) : D := Zck kk (Zdx [Ziw, s])
def Zbm (kk : Nat → BitVec 32) (x : Item) : D × Int := if Zcr x then (lfT kk (Zn (Zcb x).1), 0) else (dz, 60)
theorem Z0p (e : Entry) : Z4 Tryd.prog G 82 [Zdv e] [] (.tuple #[slv 0 0 (Zbi e).1.length (Zbi e).1.length, Iv (Zbi e).2]) [Zao (Zbi e).1] := by
  refine Zbd (fn := Tryd.f82) (nt := 57) rfl rfl rfl rfl ?_
  refine Zae 5 (H' := [hole, hole, hole, hole, hole]) rfl ?_
  refine Ze (Zg (Zbs (v := Zdv e) (b := bxB 109 (Zda e)) (nid := 0) (H' := [bxB 109 (Zda e), hole, hole, hole, hole]) (Zc (.slice none 0 0) (Zc (Iv 0) (Za (Zb (Ze (Ze (Zg (Zm (p := pt 0 0) (v := Zdv e) ?_))))))))))
  refine Zq (Zmi (G := G) e) (vals := [Zdv e]) (res' := Iv (Zej e)) rfl rfl rfl rfl rfl rfl ?_
  refine Zc (Iv (Zej e)) (Za (Zb (Ze (Zg (Zd (Iv (Zej e)) ?_)))))
  by_cases h1 : (Zej e) ≠ 0
  refine Zl (vx := Iv (Zej e)) (vy := Iv 0) rfl rfl (.bool true) rfl rfl (Zfc (by omega)) ?_
  refine Za (Zb (Zy rfl (Ze (Zg (Zd (Iv (Zej e)) (Zc (.slice none 0 0) (Zc (Iv (Zej e)) (Za (Zb ?_)))))))))
  refine Zb6 (Zbe.nilTmp (i := 2) (b := 1) true 1 rfl (by decide) rfl) ?_
  refine Zr (Z3 (Zs ?_))
  rw [show Zbi e = ([], Zej e) from by rw [show Zej e = 60 from if_neg (Zi2 (by omega))]; exact if_neg (Zi2 (by omega))]
  exact Za9 [1] (v := .tuple #[slv 1 0 0 0, Iv (Zej e)]) rfl (by kernel_rfl) rfl rfl (by decide) (by simp [Za6, Zao]) ⟨⟨rfl, rfl, rfl, by first | omega | exact Nat.le_refl _ | exact Nat.zero_le _ | (dsimp only; omega), by first | omega | exact Nat.le_refl _ | exact Nat.zero_le _ | (dsimp only; omega)⟩, rfl, trivial⟩
  refine Zl (vx := Iv (Zej e)) (vy := Iv 0) rfl rfl (.bool false) rfl rfl (Ze3 (by omega)) ?_
  refine Za (Zb (Zt rfl (Zx (Zb (Ze (Zg (Zaw (b := rfB (.slice none 0 0)) (nid := 1) (H' := [bxB 109 (Zda e), rfB (.slice none 0 0), hole, hole, hole]) (Za (Zb (Ze ?_))))))))))
  have hr := Zrq (e := e) (by omega)
  have hk := Zoj hr
  refine Zb6 (Zbe.nilCell (k := 1) (j := 0) (b := 2) true 2 rfl (by decide) rfl (by show 0 < 1; decide) rfl rfl) ?_
  refine Zg (Zi (b := 0) (o := 0) (n := 0) (o' := 0) (Zm (p := pt 0 0) (v := Iv e.kind) ?_))
  refine Zch (e := [some (1, 0), some (2, 0)]) (nid := 0) (Zk2 (G := G) [] 0 1 e.kind rfl (by omega) (by omega) (by omega)) (vals := [pt 1 0, Iv 1, Iv e.kind]) (v := .tuple #[]) (H' := [bxB 109 (Zda e), rfB (slv 2 0 1 1), rwB cFd ([] ++ [(⟨1, (Zo e.kind).1⟩ : Field)]), hole, hole]) rfl rfl rfl rfl rfl rfl ⟨⟨⟨rfl, rfl⟩, rfl, rfl, trivial⟩, ⟨(Zad rfl rfl rfl rfl), (Zad rfl rfl rfl rfl), trivial⟩, rfl, rfl, rfl, Nat.le_refl _⟩ (by kernel_rfl) rfl (by kernel_rfl) ?_
  refine Za (Zb (Ze (Ze (Zg (Zi (b := 0) (o := 0) (n := 0) (o' := 0) (Zm (p := pt 0 0) (v := Iv e.kind) (Za (Zb (Z7 (Ze (Zg ?_)))))))))))
  by_cases h2 : e.kind = 1
  refine Zl (vx := Iv e.kind) (vy := Iv 1) rfl rfl (.bool true) rfl rfl (Zc2 (by omega)) ?_
  refine Zc (.bool true) (Za (Zb (Zy rfl (Ze ?_))))
  have hu := Zkl hr (by omega)
  refine Zg (Zi (b := 0) (o := 0) (n := 1) (o' := 1) (Zm (p := pt 0 1) (v := Iv e.client) ?_))
  refine Zch (e := [some (1, 0), some (2, 0)]) (nid := 0) (Zk2 (G := G) ([] ++ [(⟨1, (Zo e.kind).1⟩ : Field)]) 1 2 e.client rfl (by omega) (by omega) (by omega)) (vals := [pt 1 0, Iv 2, Iv e.client]) (v := .tuple #[]) (H' := [bxB 109 (Zda e), rfB (slv 2 0 2 2), rwB cFd (([] ++ [(⟨1, (Zo e.kind).1⟩ : Field)]) ++ [(⟨2, (Zo e.client).1⟩ : Field)]), hole, hole]) rfl rfl rfl rfl rfl rfl ⟨⟨⟨rfl, rfl⟩, rfl, rfl, trivial⟩, ⟨(Zad rfl rfl rfl rfl), (Zad rfl rfl rfl rfl), trivial⟩, rfl, rfl, rfl, Nat.le_refl _⟩ (by kernel_rfl) rfl (by kernel_rfl) ?_
  refine Za (Zb (Ze (Zg (Zi (b := 0) (o := 0) (n := 2) (o' := 2) (Zm (p := pt 0 2) (v := Iv e.seq) ?_)))))
  refine Zch (e := [some (1, 0), some (2, 0)]) (nid := 0) (Zk2 (G := G) (([] ++ [(⟨1, (Zo e.kind).1⟩ : Field)]) ++ [(⟨2, (Zo e.client).1⟩ : Field)]) 2 3 e.seq rfl (by omega) (by omega) (by omega)) (vals := [pt 1 0, Iv 3, Iv e.seq]) (v := .tuple #[]) (H' := [bxB 109 (Zda e), rfB (slv 2 0 3 3), rwB cFd ((([] ++ [(⟨1, (Zo e.kind).1⟩ : Field)]) ++ [(⟨2, (Zo e.client).1⟩ : Field)]) ++ [(⟨3, (Zo e.seq).1⟩ : Field)]), hole, hole]) rfl rfl rfl rfl rfl rfl ⟨⟨⟨rfl, rfl⟩, rfl, rfl, trivial⟩, ⟨(Zad rfl rfl rfl rfl), (Zad rfl rfl rfl rfl), trivial⟩, rfl, rfl, rfl, Nat.le_refl _⟩ (by kernel_rfl) rfl (by kernel_rfl) ?_
  refine Za (Zb (Zg (Zi (b := 0) (o := 0) (n := 3) (o' := 3) (Zm (p := pt 0 3) (v := .string e.text) ?_))))
  refine Zch (e := [some (1, 0), some (2, 0)]) (nid := 0) (Zjn (G := G) ((([] ++ [(⟨1, (Zo e.kind).1⟩ : Field)]) ++ [(⟨2, (Zo e.client).1⟩ : Field)]) ++ [(⟨3, (Zo e.seq).1⟩ : Field)]) 3 4 e.text rfl (by omega)) (vals := [pt 1 0, Iv 4, .string e.text]) (v := .tuple #[]) (H' := [bxB 109 (Zda e), rfB (slv 2 0 4 4), rwB cFd (((([] ++ [(⟨1, (Zo e.kind).1⟩ : Field)]) ++ [(⟨2, (Zo e.client).1⟩ : Field)]) ++ [(⟨3, (Zo e.seq).1⟩ : Field)]) ++ [(⟨4, e.text⟩ : Field)]), hole, hole]) rfl rfl rfl rfl rfl rfl ⟨⟨⟨rfl, rfl⟩, rfl, rfl, trivial⟩, ⟨(Zad rfl rfl rfl rfl), (Zad rfl rfl rfl rfl), trivial⟩, rfl, rfl, rfl, Nat.le_refl _⟩ (by kernel_rfl) rfl (by kernel_rfl) ?_
  refine Za (Z8 (Zb (Ze (Zg ?_))))
  refine Zaj (p := pt 1 0) (v := slv 2 0 4 4) rfl rfl rfl rfl ?_
  refine Z0 (e := [some (2, 0)]) (nid := 3) (Zf4 (G := G) (((([] ++ [(⟨1, (Zo e.kind).1⟩ : Field)]) ++ [(⟨2, (Zo e.client).1⟩ : Field)]) ++ [(⟨3, (Zo e.seq).1⟩ : Field)]) ++ [(⟨4, e.text⟩ : Field)]) 4 4 rfl (by omega) (by omega)) (vals := [slv 2 0 4 4]) (v := .tuple #[slv 3 0 ((Zz (((([] ++ [(⟨1, (Zo e.kind).1⟩ : Field)]) ++ [(⟨2, (Zo e.client).1⟩ : Field)]) ++ [(⟨3, (Zo e.seq).1⟩ : Field)]) ++ [(⟨4, e.text⟩ : Field)]) 0 []).1.length) ((Zz (((([] ++ [(⟨1, (Zo e.kind).1⟩ : Field)]) ++ [(⟨2, (Zo e.client).1⟩ : Field)]) ++ [(⟨3, (Zo e.seq).1⟩ : Field)]) ++ [(⟨4, e.text⟩ : Field)]) 0 []).1.length), Iv ((Zz (((([] ++ [(⟨1, (Zo e.kind).1⟩ : Field)]) ++ [(⟨2, (Zo e.client).1⟩ : Field)]) ++ [(⟨3, (Zo e.seq).1⟩ : Field)]) ++ [(⟨4, e.text⟩ : Field)]) 0 []).2)]) (H' := [bxB 109 (Zda e), rfB (slv 2 0 4 4), rwB cFd (((([] ++ [(⟨1, (Zo e.kind).1⟩ : Field)]) ++ [(⟨2, (Zo e.client).1⟩ : Field)]) ++ [(⟨3, (Zo e.seq).1⟩ : Field)]) ++ [(⟨4, e.text⟩ : Field)]), Zao ((Zz (((([] ++ [(⟨1, (Zo e.kind).1⟩ : Field)]) ++ [(⟨2, (Zo e.client).1⟩ : Field)]) ++ [(⟨3, (Zo e.seq).1⟩ : Field)]) ++ [(⟨4, e.text⟩ : Field)]) 0 []).1), hole]) rfl rfl rfl rfl rfl rfl rfl ⟨⟨⟨rfl, rfl, rfl, by first | omega | exact Nat.le_refl _, by first | omega | exact Nat.le_refl _⟩, trivial⟩, ⟨(Zbq rfl), trivial⟩, rfl, rfl, rfl⟩ (by kernel_rfl) (by kernel_rfl) ?_
  refine Z1 (vs := #[slv 3 0 ((Zz (((([] ++ [(⟨1, (Zo e.kind).1⟩ : Field)]) ++ [(⟨2, (Zo e.client).1⟩ : Field)]) ++ [(⟨3, (Zo e.seq).1⟩ : Field)]) ++ [(⟨4, e.text⟩ : Field)]) 0 []).1.length) ((Zz (((([] ++ [(⟨1, (Zo e.kind).1⟩ : Field)]) ++ [(⟨2, (Zo e.client).1⟩ : Field)]) ++ [(⟨3, (Zo e.seq).1⟩ : Field)]) ++ [(⟨4, e.text⟩ : Field)]) 0 []).1.length), Iv ((Zz (((([] ++ [(⟨1, (Zo e.kind).1⟩ : Field)]) ++ [(⟨2, (Zo e.client).1⟩ : Field)]) ++ [(⟨3, (Zo e.seq).1⟩ : Field)]) ++ [(⟨4, e.text⟩ : Field)]) 0 []).2)]) (v := slv 3 0 ((Zz (((([] ++ [(⟨1, (Zo e.kind).1⟩ : Field)]) ++ [(⟨2, (Zo e.client).1⟩ : Field)]) ++ [(⟨3, (Zo e.seq).1⟩ : Field)]) ++ [(⟨4, e.text⟩ : Field)]) 0 []).1.length) ((Zz (((([] ++ [(⟨1, (Zo e.kind).1⟩ : Field)]) ++ [(⟨2, (Zo e.client).1⟩ : Field)]) ++ [(⟨3, (Zo e.seq).1⟩ : Field)]) ++ [(⟨4, e.text⟩ : Field)]) 0 []).1.length)) (Z1 (vs := #[slv 3 0 ((Zz (((([] ++ [(⟨1, (Zo e.kind).1⟩ : Field)]) ++ [(⟨2, (Zo e.client).1⟩ : Field)]) ++ [(⟨3, (Zo e.seq).1⟩ : Field)]) ++ [(⟨4, e.text⟩ : Field)]) 0 []).1.length) ((Zz (((([] ++ [(⟨1, (Zo e.kind).1⟩ : Field)]) ++ [(⟨2, (Zo e.client).1⟩ : Field)]) ++ [(⟨3, (Zo e.seq).1⟩ : Field)]) ++ [(⟨4, e.text⟩ : Field)]) 0 []).1.length), Iv ((Zz (((([] ++ [(⟨1, (Zo e.kind).1⟩ : Field)]) ++ [(⟨2, (Zo e.client).1⟩ : Field)]) ++ [(⟨3, (Zo e.seq).1⟩ : Field)]) ++ [(⟨4, e.text⟩ : Field)]) 0 []).2)]) (v := Iv ((Zz (((([] ++ [(⟨1, (Zo e.kind).1⟩ : Field)]) ++ [(⟨2, (Zo e.client).1⟩ : Field)]) ++ [(⟨3, (Zo e.seq).1⟩ : Field)]) ++ [(⟨4, e.text⟩ : Field)]) 0 []).2)) (Zc (slv 3 0 ((Zz (((([] ++ [(⟨1, (Zo e.kind).1⟩ : Field)]) ++ [(⟨2, (Zo e.client).1⟩ : Field)]) ++ [(⟨3, (Zo e.seq).1⟩ : Field)]) ++ [(⟨4, e.text⟩ : Field)]) 0 []).1.length) ((Zz (((([] ++ [(⟨1, (Zo e.kind).1⟩ : Field)]) ++ [(⟨2, (Zo e.client).1⟩ : Field)]) ++ [(⟨3, (Zo e.seq).1⟩ : Field)]) ++ [(⟨4, e.text⟩ : Field)]) 0 []).1.length)) (Zc (Iv ((Zz (((([] ++ [(⟨1, (Zo e.kind).1⟩ : Field)]) ++ [(⟨2, (Zo e.client).1⟩ : Field)]) ++ [(⟨3, (Zo e.seq).1⟩ : Field)]) ++ [(⟨4, e.text⟩ : Field)]) 0 []).2)) (Za (Zb (Zr (Zs ?_)))))))
  have ee : (((([] ++ [(⟨1, (Zo e.kind).1⟩ : Field)]) ++ [(⟨2, (Zo e.client).1⟩ : Field)]) ++ [(⟨3, (Zo e.seq).1⟩ : Field)]) ++ [(⟨4, e.text⟩ : Field)]) = Zl1 e := by unfold Zl1; first | (rw [if_pos (by omega)]; done) | (rw [if_pos (by omega)]; rfl) | (rw [if_neg (by omega), if_pos (by omega)]; rfl) | (rw [if_neg (by omega), if_neg (by omega)]; rfl)
  have ez := Zqn hr
  rw [← ee] at ez
  rw [show Zbi e = ((Zz (((([] ++ [(⟨1, (Zo e.kind).1⟩ : Field)]) ++ [(⟨2, (Zo e.client).1⟩ : Field)]) ++ [(⟨3, (Zo e.seq).1⟩ : Field)]) ++ [(⟨4, e.text⟩ : Field)]) 0 []).1, (Zz (((([] ++ [(⟨1, (Zo e.kind).1⟩ : Field)]) ++ [(⟨2, (Zo e.client).1⟩ : Field)]) ++ [(⟨3, (Zo e.seq).1⟩ : Field)]) ++ [(⟨4, e.text⟩ : Field)]) 0 []).2) from by rw [ez, ee]; exact if_pos hr]
  exact Za9 [3] (v := .tuple #[slv 3 0 ((Zz (((([] ++ [(⟨1, (Zo e.kind).1⟩ : Field)]) ++ [(⟨2, (Zo e.client).1⟩ : Field)]) ++ [(⟨3, (Zo e.seq).1⟩ : Field)]) ++ [(⟨4, e.text⟩ : Field)]) 0 []).1.length) ((Zz (((([] ++ [(⟨1, (Zo e.kind).1⟩ : Field)]) ++ [(⟨2, (Zo e.client).1⟩ : Field)]) ++ [(⟨3, (Zo e.seq).1⟩ : Field)]) ++ [(⟨4, e.text⟩ : Field)]) 0 []).1.length), Iv ((Zz (((([] ++ [(⟨1, (Zo e.kind).1⟩ : Field)]) ++ [(⟨2, (Zo e.client).1⟩ : Field)]) ++ [(⟨3, (Zo e.seq).1⟩ : Field)]) ++ [(⟨4, e.text⟩ : Field)]) 0 []).2)]) rfl (by kernel_rfl) rfl rfl (by decide) (by simp [Za6, Zao]) ⟨⟨rfl, rfl, rfl, by first | omega | exact Nat.le_refl _ | exact Nat.zero_le _ | (dsimp only; omega), by first | omega | exact Nat.le_refl _ | exact Nat.zero_le _ | (dsimp only; omega)⟩, rfl, trivial⟩
  refine Zl (vx := Iv e.kind) (vy := Iv 1) rfl rfl (.bool false) rfl rfl (Zed (by omega)) ?_
  refine Zc (.bool false) (Za (Zb (Zt rfl (Ze (Zg ?_)))))
  by_cases h3 : e.kind = 2
  refine Zl (vx := Iv e.kind) (vy := Iv 2) rfl rfl (.bool true) rfl rfl (Zc2 (by omega)) ?_
  refine Zc (.bool true) (Za (Zb (Zy rfl (Ze (Zg (Zi (b := 0) (o := 0) (n := 4) (o' := 4) (Zm (p := pt 0 4) (v := Zf0 e.head) ?_)))))))
  refine Z0 (e := []) (nid := 3) (Zqd (G := G) e.head) (vals := [Zf0 e.head]) (v := .tuple #[slv 3 0 ((Zap e.head).1.length) ((Zap e.head).1.length), Iv ((Zap e.head).2)]) (H' := [bxB 109 (Zda e), rfB (slv 2 0 1 1), rwB cFd ([] ++ [(⟨1, (Zo e.kind).1⟩ : Field)]), Zao ((Zap e.head).1), hole]) rfl rfl rfl rfl rfl rfl rfl ⟨⟨rfl, trivial⟩, trivial, rfl, rfl, rfl⟩ (by kernel_rfl) (by kernel_rfl) ?_
  refine Zd (.tuple #[slv 3 0 ((Zap e.head).1.length) ((Zap e.head).1.length), Iv ((Zap e.head).2)]) (Z1 (vs := #[slv 3 0 ((Zap e.head).1.length) ((Zap e.head).1.length), Iv ((Zap e.head).2)]) (v := slv 3 0 ((Zap e.head).1.length) ((Zap e.head).1.length)) (Z1 (vs := #[slv 3 0 ((Zap e.head).1.length) ((Zap e.head).1.length), Iv ((Zap e.head).2)]) (v := Iv ((Zap e.head).2)) (Zc (slv 3 0 ((Zap e.head).1.length) ((Zap e.head).1.length)) (Zc (Iv ((Zap e.head).2)) (Za (Zb (Zg (Zd (slv 3 0 ((Zap e.head).1.length) ((Zap e.head).1.length)) ?_))))))))
  refine Zjd (p := slv 3 0 ((Zap e.head).1.length) ((Zap e.head).1.length)) (v := .string (Zn ((Zap e.head).1))) rfl rfl rfl (Zh4 rfl rfl rfl rfl rfl (by omega)) ?_
  refine Zch (e := [some (1, 0), some (2, 0)]) (nid := 0) (Zjn (G := G) ([] ++ [(⟨1, (Zo e.kind).1⟩ : Field)]) 1 5 (Zn ((Zap e.head).1)) rfl (by omega)) (vals := [pt 1 0, Iv 5, .string (Zn ((Zap e.head).1))]) (v := .tuple #[]) (H' := [bxB 109 (Zda e), rfB (slv 2 0 2 2), rwB cFd (([] ++ [(⟨1, (Zo e.kind).1⟩ : Field)]) ++ [(⟨5, (Zn ((Zap e.head).1))⟩ : Field)]), Zao ((Zap e.head).1), hole]) rfl rfl rfl rfl rfl rfl ⟨⟨⟨rfl, rfl⟩, rfl, rfl, trivial⟩, ⟨(Zad rfl rfl rfl rfl), (Zad rfl rfl rfl rfl), trivial⟩, rfl, rfl, rfl, Nat.le_refl _⟩ (by kernel_rfl) rfl (by kernel_rfl) ?_
  refine Za (Z8 (Zb (Ze (Zg ?_))))
  refine Zaj (p := pt 1 0) (v := slv 2 0 2 2) rfl rfl rfl rfl ?_
  refine Z0 (e := [some (2, 0)]) (nid := 4) (Zf4 (G := G) (([] ++ [(⟨1, (Zo e.kind).1⟩ : Field)]) ++ [(⟨5, (Zn ((Zap e.head).1))⟩ : Field)]) 2 2 rfl (by omega) (by omega)) (vals := [slv 2 0 2 2]) (v := .tuple #[slv 4 0 ((Zz (([] ++ [(⟨1, (Zo e.kind).1⟩ : Field)]) ++ [(⟨5, (Zn ((Zap e.head).1))⟩ : Field)]) 0 []).1.length) ((Zz (([] ++ [(⟨1, (Zo e.kind).1⟩ : Field)]) ++ [(⟨5, (Zn ((Zap e.head).1))⟩ : Field)]) 0 []).1.length), Iv ((Zz (([] ++ [(⟨1, (Zo e.kind).1⟩ : Field)]) ++ [(⟨5, (Zn ((Zap e.head).1))⟩ : Field)]) 0 []).2)]) (H' := [bxB 109 (Zda e), rfB (slv 2 0 2 2), rwB cFd (([] ++ [(⟨1, (Zo e.kind).1⟩ : Field)]) ++ [(⟨5, (Zn ((Zap e.head).1))⟩ : Field)]), Zao ((Zap e.head).1), Zao ((Zz (([] ++ [(⟨1, (Zo e.kind).1⟩ : Field)]) ++ [(⟨5, (Zn ((Zap e.head).1))⟩ : Field)]) 0 []).1)]) rfl rfl rfl rfl rfl rfl rfl ⟨⟨⟨rfl, rfl, rfl, by first | omega | exact Nat.le_refl _, by first | omega | exact Nat.le_refl _⟩, trivial⟩, ⟨(Zbq rfl), trivial⟩, rfl, rfl, rfl⟩ (by kernel_rfl) (by kernel_rfl) ?_
  refine Z1 (vs := #[slv 4 0 ((Zz (([] ++ [(⟨1, (Zo e.kind).1⟩ : Field)]) ++ [(⟨5, (Zn ((Zap e.head).1))⟩ : Field)]) 0 []).1.length) ((Zz (([] ++ [(⟨1, (Zo e.kind).1⟩ : Field)]) ++ [(⟨5, (Zn ((Zap e.head).1))⟩ : Field)]) 0 []).1.length), Iv ((Zz (([] ++ [(⟨1, (Zo e.kind).1⟩ : Field)]) ++ [(⟨5, (Zn ((Zap e.head).1))⟩ : Field)]) 0 []).2)]) (v := slv 4 0 ((Zz (([] ++ [(⟨1, (Zo e.kind).1⟩ : Field)]) ++ [(⟨5, (Zn ((Zap e.head).1))⟩ : Field)]) 0 []).1.length) ((Zz (([] ++ [(⟨1, (Zo e.kind).1⟩ : Field)]) ++ [(⟨5, (Zn ((Zap e.head).1))⟩ : Field)]) 0 []).1.length)) (Z1 (vs := #[slv 4 0 ((Zz (([] ++ [(⟨1, (Zo e.kind).1⟩ : Field)]) ++ [(⟨5, (Zn ((Zap e.head).1))⟩ : Field)]) 0 []).1.length) ((Zz (([] ++ [(⟨1, (Zo e.kind).1⟩ : Field)]) ++ [(⟨5, (Zn ((Zap e.head).1))⟩ : Field)]) 0 []).1.length), Iv ((Zz (([] ++ [(⟨1, (Zo e.kind).1⟩ : Field)]) ++ [(⟨5, (Zn ((Zap e.head).1))⟩ : Field)]) 0 []).2)]) (v := Iv ((Zz (([] ++ [(⟨1, (Zo e.kind).1⟩ : Field)]) ++ [(⟨5, (Zn ((Zap e.head).1))⟩ : Field)]) 0 []).2)) (Zc (slv 4 0 ((Zz (([] ++ [(⟨1, (Zo e.kind).1⟩ : Field)]) ++ [(⟨5, (Zn ((Zap e.head).1))⟩ : Field)]) 0 []).1.length) ((Zz (([] ++ [(⟨1, (Zo e.kind).1⟩ : Field)]) ++ [(⟨5, (Zn ((Zap e.head).1))⟩ : Field)]) 0 []).1.length)) (Zc (Iv ((Zz (([] ++ [(⟨1, (Zo e.kind).1⟩ : Field)]) ++ [(⟨5, (Zn ((Zap e.head).1))⟩ : Field)]) 0 []).2)) (Za (Zb (Zr (Zs ?_)))))))
  have ee : (([] ++ [(⟨1, (Zo e.kind).1⟩ : Field)]) ++ [(⟨5, (Zn ((Zap e.head).1))⟩ : Field)]) = Zl1 e := by unfold Zl1; first | (rw [if_pos (by omega)]; done) | (rw [if_pos (by omega)]; rfl) | (rw [if_neg (by omega), if_pos (by omega)]; rfl) | (rw [if_neg (by omega), if_neg (by omega)]; rfl)
  have ez := Zqn hr
  rw [← ee] at ez
  rw [show Zbi e = ((Zz (([] ++ [(⟨1, (Zo e.kind).1⟩ : Field)]) ++ [(⟨5, (Zn ((Zap e.head).1))⟩ : Field)]) 0 []).1, (Zz (([] ++ [(⟨1, (Zo e.kind).1⟩ : Field)]) ++ [(⟨5, (Zn ((Zap e.head).1))⟩ : Field)]) 0 []).2) from by rw [ez, ee]; exact if_pos hr]
  exact Za9 [4] (v := .tuple #[slv 4 0 ((Zz (([] ++ [(⟨1, (Zo e.kind).1⟩ : Field)]) ++ [(⟨5, (Zn ((Zap e.head).1))⟩ : Field)]) 0 []).1.length) ((Zz (([] ++ [(⟨1, (Zo e.kind).1⟩ : Field)]) ++ [(⟨5, (Zn ((Zap e.head).1))⟩ : Field)]) 0 []).1.length), Iv ((Zz (([] ++ [(⟨1, (Zo e.kind).1⟩ : Field)]) ++ [(⟨5, (Zn ((Zap e.head).1))⟩ : Field)]) 0 []).2)]) rfl (by kernel_rfl) rfl rfl (by decide) (by simp [Za6, Zao]) ⟨⟨rfl, rfl, rfl, by first | omega | exact Nat.le_refl _ | exact Nat.zero_le _ | (dsimp only; omega), by first | omega | exact Nat.le_refl _ | exact Nat.zero_le _ | (dsimp only; omega)⟩, rfl, trivial⟩
  refine Zl (vx := Iv e.kind) (vy := Iv 2) rfl rfl (.bool false) rfl rfl (Zed (by omega)) ?_
  refine Zc (.bool false) (Za (Zb (Zt rfl (Ze (Zg ?_)))))
  refine Zl (vx := Iv e.kind) (vy := Iv 3) rfl rfl (.bool true) rfl rfl (Zc2 (by omega)) ?_
  refine Zc (.bool true) (Za (Zb (Zy rfl (Ze (Zg (Zi (b := 0) (o := 0) (n := 73) (o' := 73) (Zm (p := pt 0 73) (v := Zac e.claim) ?_)))))))
  refine Z0 (e := []) (nid := 3) (Zre (G := G) e.claim) (vals := [Zac e.claim]) (v := .tuple #[slv 3 0 ((Zb7 e.claim).1.length) ((Zb7 e.claim).1.length), Iv ((Zb7 e.claim).2)]) (H' := [bxB 109 (Zda e), rfB (slv 2 0 1 1), rwB cFd ([] ++ [(⟨1, (Zo e.kind).1⟩ : Field)]), Zao ((Zb7 e.claim).1), hole]) rfl rfl rfl rfl rfl rfl rfl ⟨⟨rfl, trivial⟩, trivial, rfl, rfl, rfl⟩ (by kernel_rfl) (by kernel_rfl) ?_
  refine Zd (.tuple #[slv 3 0 ((Zb7 e.claim).1.length) ((Zb7 e.claim).1.length), Iv ((Zb7 e.claim).2)]) (Z1 (vs := #[slv 3 0 ((Zb7 e.claim).1.length) ((Zb7 e.claim).1.length), Iv ((Zb7 e.claim).2)]) (v := slv 3 0 ((Zb7 e.claim).1.length) ((Zb7 e.claim).1.length)) (Z1 (vs := #[slv 3 0 ((Zb7 e.claim).1.length) ((Zb7 e.claim).1.length), Iv ((Zb7 e.claim).2)]) (v := Iv ((Zb7 e.claim).2)) (Zc (slv 3 0 ((Zb7 e.claim).1.length) ((Zb7 e.claim).1.length)) (Zc (Iv ((Zb7 e.claim).2)) (Za (Zb (Zg (Zd (slv 3 0 ((Zb7 e.claim).1.length) ((Zb7 e.claim).1.length)) ?_))))))))
  refine Zjd (p := slv 3 0 ((Zb7 e.claim).1.length) ((Zb7 e.claim).1.length)) (v := .string (Zn ((Zb7 e.claim).1))) rfl rfl rfl (Zh4 rfl rfl rfl rfl rfl (by omega)) ?_
  refine Zch (e := [some (1, 0), some (2, 0)]) (nid := 0) (Zjn (G := G) ([] ++ [(⟨1, (Zo e.kind).1⟩ : Field)]) 1 6 (Zn ((Zb7 e.claim).1)) rfl (by omega)) (vals := [pt 1 0, Iv 6, .string (Zn ((Zb7 e.claim).1))]) (v := .tuple #[]) (H' := [bxB 109 (Zda e), rfB (slv 2 0 2 2), rwB cFd (([] ++ [(⟨1, (Zo e.kind).1⟩ : Field)]) ++ [(⟨6, (Zn ((Zb7 e.claim).1))⟩ : Field)]), Zao ((Zb7 e.claim).1), hole]) rfl rfl rfl rfl rfl rfl ⟨⟨⟨rfl, rfl⟩, rfl, rfl, trivial⟩, ⟨(Zad rfl rfl rfl rfl), (Zad rfl rfl rfl rfl), trivial⟩, rfl, rfl, rfl, Nat.le_refl _⟩ (by kernel_rfl) rfl (by kernel_rfl) ?_
  refine Za (Z8 (Zb (Ze (Zg ?_))))
  refine Zaj (p := pt 1 0) (v := slv 2 0 2 2) rfl rfl rfl rfl ?_
  refine Z0 (e := [some (2, 0)]) (nid := 4) (Zf4 (G := G) (([] ++ [(⟨1, (Zo e.kind).1⟩ : Field)]) ++ [(⟨6, (Zn ((Zb7 e.claim).1))⟩ : Field)]) 2 2 rfl (by omega) (by omega)) (vals := [slv 2 0 2 2]) (v := .tuple #[slv 4 0 ((Zz (([] ++ [(⟨1, (Zo e.kind).1⟩ : Field)]) ++ [(⟨6, (Zn ((Zb7 e.claim).1))⟩ : Field)]) 0 []).1.length) ((Zz (([] ++ [(⟨1, (Zo e.kind).1⟩ : Field)]) ++ [(⟨6, (Zn ((Zb7 e.claim).1))⟩ : Field)]) 0 []).1.length), Iv ((Zz (([] ++ [(⟨1, (Zo e.kind).1⟩ : Field)]) ++ [(⟨6, (Zn ((Zb7 e.claim).1))⟩ : Field)]) 0 []).2)]) (H' := [bxB 109 (Zda e), rfB (slv 2 0 2 2), rwB cFd (([] ++ [(⟨1, (Zo e.kind).1⟩ : Field)]) ++ [(⟨6, (Zn ((Zb7 e.claim).1))⟩ : Field)]), Zao ((Zb7 e.claim).1), Zao ((Zz (([] ++ [(⟨1, (Zo e.kind).1⟩ : Field)]) ++ [(⟨6, (Zn ((Zb7 e.claim).1))⟩ : Field)]) 0 []).1)]) rfl rfl rfl rfl rfl rfl rfl ⟨⟨⟨rfl, rfl, rfl, by first | omega | exact Nat.le_refl _, by first | omega | exact Nat.le_refl _⟩, trivial⟩, ⟨(Zbq rfl), trivial⟩, rfl, rfl, rfl⟩ (by kernel_rfl) (by kernel_rfl) ?_
  refine Z1 (vs := #[slv 4 0 ((Zz (([] ++ [(⟨1, (Zo e.kind).1⟩ : Field)]) ++ [(⟨6, (Zn ((Zb7 e.claim).1))⟩ : Field)]) 0 []).1.length) ((Zz (([] ++ [(⟨1, (Zo e.kind).1⟩ : Field)]) ++ [(⟨6, (Zn ((Zb7 e.claim).1))⟩ : Field)]) 0 []).1.length), Iv ((Zz (([] ++ [(⟨1, (Zo e.kind).1⟩ : Field)]) ++ [(⟨6, (Zn ((Zb7 e.claim).1))⟩ : Field)]) 0 []).2)]) (v := slv 4 0 ((Zz (([] ++ [(⟨1, (Zo e.kind).1⟩ : Field)]) ++ [(⟨6, (Zn ((Zb7 e.claim).1))⟩ : Field)]) 0 []).1.length) ((Zz (([] ++ [(⟨1, (Zo e.kind).1⟩ : Field)]) ++ [(⟨6, (Zn ((Zb7 e.claim).1))⟩ : Field)]) 0 []).1.length)) (Z1 (vs := #[slv 4 0 ((Zz (([] ++ [(⟨1, (Zo e.kind).1⟩ : Field)]) ++ [(⟨6, (Zn ((Zb7 e.claim).1))⟩ : Field)]) 0 []).1.length) ((Zz (([] ++ [(⟨1, (Zo e.kind).1⟩ : Field)]) ++ [(⟨6, (Zn ((Zb7 e.claim).1))⟩ : Field)]) 0 []).1.length), Iv ((Zz (([] ++ [(⟨1, (Zo e.kind).1⟩ : Field)]) ++ [(⟨6, (Zn ((Zb7 e.claim).1))⟩ : Field)]) 0 []).2)]) (v := Iv ((Zz (([] ++ [(⟨1, (Zo e.kind).1⟩ : Field)]) ++ [(⟨6, (Zn ((Zb7 e.claim).1))⟩ : Field)]) 0 []).2)) (Zc (slv 4 0 ((Zz (([] ++ [(⟨1, (Zo e.kind).1⟩ : Field)]) ++ [(⟨6, (Zn ((Zb7 e.claim).1))⟩ : Field)]) 0 []).1.length) ((Zz (([] ++ [(⟨1, (Zo e.kind).1⟩ : Field)]) ++ [(⟨6, (Zn ((Zb7 e.claim).1))⟩ : Field)]) 0 []).1.length)) (Zc (Iv ((Zz (([] ++ [(⟨1, (Zo e.kind).1⟩ : Field)]) ++ [(⟨6, (Zn ((Zb7 e.claim).1))⟩ : Field)]) 0 []).2)) (Za (Zb (Zr (Zs ?_)))))))
  have ee : (([] ++ [(⟨1, (Zo e.kind).1⟩ : Field)]) ++ [(⟨6, (Zn ((Zb7 e.claim).1))⟩ : Field)]) = Zl1 e := by unfold Zl1; first | (rw [if_pos (by omega)]; done) | (rw [if_pos (by omega)]; rfl) | (rw [if_neg (by omega), if_pos (by omega)]; rfl) | (rw [if_neg (by omega), if_neg (by omega)]; rfl)
  have ez := Zqn hr
  rw [← ee] at ez
  rw [show Zbi e = ((Zz (([] ++ [(⟨1, (Zo e.kind).1⟩ : Field)]) ++ [(⟨6, (Zn ((Zb7 e.claim).1))⟩ : Field)]) 0 []).1, (Zz (([] ++ [(⟨1, (Zo e.kind).1⟩ : Field)]) ++ [(⟨6, (Zn ((Zb7 e.claim).1))⟩ : Field)]) 0 []).2) from by rw [ez, ee]; exact if_pos hr]
  exact Za9 [4] (v := .tuple #[slv 4 0 ((Zz (([] ++ [(⟨1, (Zo e.kind).1⟩ : Field)]) ++ [(⟨6, (Zn ((Zb7 e.claim).1))⟩ : Field)]) 0 []).1.length) ((Zz (([] ++ [(⟨1, (Zo e.kind).1⟩ : Field)]) ++ [(⟨6, (Zn ((Zb7 e.claim).1))⟩ : Field)]) 0 []).1.length), Iv ((Zz (([] ++ [(⟨1, (Zo e.kind).1⟩ : Field)]) ++ [(⟨6, (Zn ((Zb7 e.claim).1))⟩ : Field)]) 0 []).2)]) rfl (by kernel_rfl) rfl rfl (by decide) (by simp [Za6, Zao]) ⟨⟨rfl, rfl, rfl, by first | omega | exact Nat.le_refl _ | exact Nat.zero_le _ | (dsimp only; omega), by first | omega | exact Nat.le_refl _ | exact Nat.zero_le _ | (dsimp only; omega)⟩, rfl, trivial⟩
theorem Ztm (x : Item) : Z4 Tryd.prog G 79 [Zcs x] [] (.tuple #[slv 0 0 (Zcb x).1.length (Zcb x).1.length, Iv (Zcb x).2]) [Zao (Zcb x).1] := by
  refine Zbd (fn := Tryd.f79) (nt := 31) rfl rfl rfl rfl ?_
  refine Zae 5 (H' := [hole, hole, hole, hole, hole]) rfl ?_
  refine Ze (Zg (Zbs (v := Zcs x) (b := bxB 110 (Zb5 x)) (nid := 0) (H' := [bxB 110 (Zb5 x), hole, hole, hole, hole]) (Zc (.slice none 0 0) (Zc (Iv 0) (Za (Zb (Ze (Zg (Zi (b := 0) (o := 0) (n := 1) (o' := 1) (Zm (p := pt 0 1) (v := Zdv x.entry) ?_))))))))))
  refine Z0 (e := []) (nid := 1) (Z0p (G := G) x.entry) (vals := [Zdv x.entry]) (v := .tuple #[slv 1 0 ((Zbi x.entry).1.length) ((Zbi x.entry).1.length), Iv ((Zbi x.entry).2)]) (H' := [bxB 110 (Zb5 x), Zao ((Zbi x.entry).1), hole, hole, hole]) rfl rfl rfl rfl rfl rfl rfl ⟨⟨rfl, trivial⟩, trivial, rfl, rfl, rfl⟩ (by kernel_rfl) (by kernel_rfl) ?_
  refine Zd (.tuple #[slv 1 0 ((Zbi x.entry).1.length) ((Zbi x.entry).1.length), Iv ((Zbi x.entry).2)]) (Z1 (vs := #[slv 1 0 ((Zbi x.entry).1.length) ((Zbi x.entry).1.length), Iv ((Zbi x.entry).2)]) (v := slv 1 0 ((Zbi x.entry).1.length) ((Zbi x.entry).1.length)) (Z1 (vs := #[slv 1 0 ((Zbi x.entry).1.length) ((Zbi x.entry).1.length), Iv ((Zbi x.entry).2)]) (v := Iv ((Zbi x.entry).2)) (Zc (slv 1 0 ((Zbi x.entry).1.length) ((Zbi x.entry).1.length)) (Zc (Iv ((Zbi x.entry).2)) (Za (Zb (Ze (Ze (Zg (Zd (Iv ((Zbi x.entry).2)) ?_))))))))))
  by_cases h1 : ((Zbi x.entry).2) ≠ 0
  refine Zl (vx := Iv ((Zbi x.entry).2)) (vy := Iv 0) rfl rfl (.bool true) rfl rfl (Zfc (by omega)) ?_
  refine Zd (.bool true) (Zf (Zf (Zf (Zf (Zj (.bool true) (Za (Zb (Zy rfl (Ze (Zg (Zc (.slice none 0 0) (Zc (Iv 60) (Za (Zb ?_))))))))))))))
  refine Zb6 (Zbe.nilTmp (i := 2) (b := 2) true 1 rfl (by decide) rfl) ?_
  refine Zr (Z3 (Zs ?_))
  rw [show Zcb x = ([], 60) from if_neg (fun q => by have q1 := q.1; have q2 := q.2.1; first | omega | (have := Zug q.2.2; omega))]
  exact Za9 [2] (v := .tuple #[slv 2 0 0 0, Iv 60]) rfl (by kernel_rfl) rfl rfl (by decide) (by simp [Za6, Zao]) ⟨⟨rfl, rfl, rfl, by first | omega | exact Nat.le_refl _ | exact Nat.zero_le _ | (dsimp only; omega), by first | omega | exact Nat.le_refl _ | exact Nat.zero_le _ | (dsimp only; omega)⟩, rfl, trivial⟩
  refine Zl (vx := Iv ((Zbi x.entry).2)) (vy := Iv 0) rfl rfl (.bool false) rfl rfl (Ze3 (by omega)) ?_
  refine Zd (.bool false) (Zi (b := 0) (o := 0) (n := 0) (o' := 0) (Zm (p := pt 0 0) (v := Iv x.epoch) ?_))
  by_cases h2 : 1 ≤ x.epoch
  by_cases h3 : x.epoch ≤ 900000000
  refine Zq ((Zar (G := G) x.epoch 1 900000000).res (congrArg Value.bool (Zbn (by omega) (by omega)))) (vals := [Iv x.epoch, Iv 1, Iv 900000000]) (res' := .bool true) rfl rfl rfl rfl rfl rfl ?_
  refine Zgz (vx := .bool true) rfl rfl (.bool false) rfl Zdk ?_
  refine Zj (.bool false) (Za (Zb (Zt rfl (Zx (Zb (Ze (Zg (Zaw (b := rfB (.slice none 0 0)) (nid := 2) (H' := [bxB 110 (Zb5 x), Zao ((Zbi x.entry).1), rfB (.slice none 0 0), hole, hole]) (Za (Zb (Ze ?_)))))))))))
  refine Zb6 (Zbe.nilCell (k := 2) (j := 0) (b := 3) true 2 rfl (by decide) rfl (by show 0 < 1; decide) rfl rfl) ?_
  refine Zg (Zi (b := 0) (o := 0) (n := 0) (o' := 0) (Zm (p := pt 0 0) (v := Iv x.epoch) ?_))
  refine Zch (e := [some (2, 0), some (3, 0)]) (nid := 0) (Zk2 (G := G) [] 0 1 x.epoch rfl (by omega) (by omega) (by omega)) (vals := [pt 2 0, Iv 1, Iv x.epoch]) (v := .tuple #[]) (H' := [bxB 110 (Zb5 x), Zao ((Zbi x.entry).1), rfB (slv 3 0 1 1), rwB cFd ([] ++ [(⟨1, (Zo x.epoch).1⟩ : Field)]), hole]) rfl rfl rfl rfl rfl rfl ⟨⟨⟨rfl, rfl⟩, rfl, rfl, trivial⟩, ⟨(Zad rfl rfl rfl rfl), (Zad rfl rfl rfl rfl), trivial⟩, rfl, rfl, rfl, Nat.le_refl _⟩ (by kernel_rfl) rfl (by kernel_rfl) ?_
  refine Za (Zb (Ze (Zg (Zd (slv 1 0 ((Zbi x.entry).1.length) ((Zbi x.entry).1.length)) ?_))))
  refine Zjd (p := slv 1 0 ((Zbi x.entry).1.length) ((Zbi x.entry).1.length)) (v := .string (Zn ((Zbi x.entry).1))) rfl rfl rfl (Zh4 rfl rfl rfl rfl rfl (by omega)) ?_
  refine Zch (e := [some (2, 0), some (3, 0)]) (nid := 0) (Zjn (G := G) ([] ++ [(⟨1, (Zo x.epoch).1⟩ : Field)]) 1 2 (Zn ((Zbi x.entry).1)) rfl (by omega)) (vals := [pt 2 0, Iv 2, .string (Zn ((Zbi x.entry).1))]) (v := .tuple #[]) (H' := [bxB 110 (Zb5 x), Zao ((Zbi x.entry).1), rfB (slv 3 0 2 2), rwB cFd (([] ++ [(⟨1, (Zo x.epoch).1⟩ : Field)]) ++ [(⟨2, (Zn ((Zbi x.entry).1))⟩ : Field)]), hole]) rfl rfl rfl rfl rfl rfl ⟨⟨⟨rfl, rfl⟩, rfl, rfl, trivial⟩, ⟨(Zad rfl rfl rfl rfl), (Zad rfl rfl rfl rfl), trivial⟩, rfl, rfl, rfl, Nat.le_refl _⟩ (by kernel_rfl) rfl (by kernel_rfl) ?_
  refine Za (Zb (Ze (Zg ?_)))
  refine Zaj (p := pt 2 0) (v := slv 3 0 2 2) rfl rfl rfl rfl ?_
  refine Z0 (e := [some (3, 0)]) (nid := 4) (Zf4 (G := G) (([] ++ [(⟨1, (Zo x.epoch).1⟩ : Field)]) ++ [(⟨2, (Zn ((Zbi x.entry).1))⟩ : Field)]) 2 2 rfl (by omega) (by omega)) (vals := [slv 3 0 2 2]) (v := .tuple #[slv 4 0 ((Zz (([] ++ [(⟨1, (Zo x.epoch).1⟩ : Field)]) ++ [(⟨2, (Zn ((Zbi x.entry).1))⟩ : Field)]) 0 []).1.length) ((Zz (([] ++ [(⟨1, (Zo x.epoch).1⟩ : Field)]) ++ [(⟨2, (Zn ((Zbi x.entry).1))⟩ : Field)]) 0 []).1.length), Iv ((Zz (([] ++ [(⟨1, (Zo x.epoch).1⟩ : Field)]) ++ [(⟨2, (Zn ((Zbi x.entry).1))⟩ : Field)]) 0 []).2)]) (H' := [bxB 110 (Zb5 x), Zao ((Zbi x.entry).1), rfB (slv 3 0 2 2), rwB cFd (([] ++ [(⟨1, (Zo x.epoch).1⟩ : Field)]) ++ [(⟨2, (Zn ((Zbi x.entry).1))⟩ : Field)]), Zao ((Zz (([] ++ [(⟨1, (Zo x.epoch).1⟩ : Field)]) ++ [(⟨2, (Zn ((Zbi x.entry).1))⟩ : Field)]) 0 []).1)]) rfl rfl rfl rfl rfl rfl rfl ⟨⟨⟨rfl, rfl, rfl, by first | omega | exact Nat.le_refl _, by first | omega | exact Nat.le_refl _⟩, trivial⟩, ⟨(Zbq rfl), trivial⟩, rfl, rfl, rfl⟩ (by kernel_rfl) (by kernel_rfl) ?_
  refine Z1 (vs := #[slv 4 0 ((Zz (([] ++ [(⟨1, (Zo x.epoch).1⟩ : Field)]) ++ [(⟨2, (Zn ((Zbi x.entry).1))⟩ : Field)]) 0 []).1.length) ((Zz (([] ++ [(⟨1, (Zo x.epoch).1⟩ : Field)]) ++ [(⟨2, (Zn ((Zbi x.entry).1))⟩ : Field)]) 0 []).1.length), Iv ((Zz (([] ++ [(⟨1, (Zo x.epoch).1⟩ : Field)]) ++ [(⟨2, (Zn ((Zbi x.entry).1))⟩ : Field)]) 0 []).2)]) (v := slv 4 0 ((Zz (([] ++ [(⟨1, (Zo x.epoch).1⟩ : Field)]) ++ [(⟨2, (Zn ((Zbi x.entry).1))⟩ : Field)]) 0 []).1.length) ((Zz (([] ++ [(⟨1, (Zo x.epoch).1⟩ : Field)]) ++ [(⟨2, (Zn ((Zbi x.entry).1))⟩ : Field)]) 0 []).1.length)) (Z1 (vs := #[slv 4 0 ((Zz (([] ++ [(⟨1, (Zo x.epoch).1⟩ : Field)]) ++ [(⟨2, (Zn ((Zbi x.entry).1))⟩ : Field)]) 0 []).1.length) ((Zz (([] ++ [(⟨1, (Zo x.epoch).1⟩ : Field)]) ++ [(⟨2, (Zn ((Zbi x.entry).1))⟩ : Field)]) 0 []).1.length), Iv ((Zz (([] ++ [(⟨1, (Zo x.epoch).1⟩ : Field)]) ++ [(⟨2, (Zn ((Zbi x.entry).1))⟩ : Field)]) 0 []).2)]) (v := Iv ((Zz (([] ++ [(⟨1, (Zo x.epoch).1⟩ : Field)]) ++ [(⟨2, (Zn ((Zbi x.entry).1))⟩ : Field)]) 0 []).2)) (Zc (slv 4 0 ((Zz (([] ++ [(⟨1, (Zo x.epoch).1⟩ : Field)]) ++ [(⟨2, (Zn ((Zbi x.entry).1))⟩ : Field)]) 0 []).1.length) ((Zz (([] ++ [(⟨1, (Zo x.epoch).1⟩ : Field)]) ++ [(⟨2, (Zn ((Zbi x.entry).1))⟩ : Field)]) 0 []).1.length)) (Zc (Iv ((Zz (([] ++ [(⟨1, (Zo x.epoch).1⟩ : Field)]) ++ [(⟨2, (Zn ((Zbi x.entry).1))⟩ : Field)]) 0 []).2)) (Za (Zb (Zr (Zs ?_)))))))
  have ee : (([] ++ [(⟨1, (Zo x.epoch).1⟩ : Field)]) ++ [(⟨2, (Zn ((Zbi x.entry).1))⟩ : Field)]) = Zn1 x := rfl
  have ez := Zyz x
  rw [← ee] at ez
  rw [show Zcb x = ((Zz (([] ++ [(⟨1, (Zo x.epoch).1⟩ : Field)]) ++ [(⟨2, (Zn ((Zbi x.entry).1))⟩ : Field)]) 0 []).1, (Zz (([] ++ [(⟨1, (Zo x.epoch).1⟩ : Field)]) ++ [(⟨2, (Zn ((Zbi x.entry).1))⟩ : Field)]) 0 []).2) from by rw [ez, ee]; exact if_pos ⟨by omega, by omega, Z35 (by omega)⟩]
  exact Za9 [4] (v := .tuple #[slv 4 0 ((Zz (([] ++ [(⟨1, (Zo x.epoch).1⟩ : Field)]) ++ [(⟨2, (Zn ((Zbi x.entry).1))⟩ : Field)]) 0 []).1.length) ((Zz (([] ++ [(⟨1, (Zo x.epoch).1⟩ : Field)]) ++ [(⟨2, (Zn ((Zbi x.entry).1))⟩ : Field)]) 0 []).1.length), Iv ((Zz (([] ++ [(⟨1, (Zo x.epoch).1⟩ : Field)]) ++ [(⟨2, (Zn ((Zbi x.entry).1))⟩ : Field)]) 0 []).2)]) rfl (by kernel_rfl) rfl rfl (by decide) (by simp [Za6, Zao]) ⟨⟨rfl, rfl, rfl, by first | omega | exact Nat.le_refl _ | exact Nat.zero_le _ | (dsimp only; omega), by first | omega | exact Nat.le_refl _ | exact Nat.zero_le _ | (dsimp only; omega)⟩, rfl, trivial⟩
  refine Zq ((Zar (G := G) x.epoch 1 900000000).res (congrArg Value.bool (Zab (by omega)))) (vals := [Iv x.epoch, Iv 1, Iv 900000000]) (res' := .bool false) rfl rfl rfl rfl rfl rfl ?_
  refine Zgz (vx := .bool false) rfl rfl (.bool true) rfl Zdk ?_
  refine Zj (.bool true) (Za (Zb (Zy rfl (Ze (Zg (Zc (.slice none 0 0) (Zc (Iv 60) (Za (Zb ?_)))))))))
  refine Zb6 (Zbe.nilTmp (i := 2) (b := 2) true 1 rfl (by decide) rfl) ?_
  refine Zr (Z3 (Zs ?_))
  rw [show Zcb x = ([], 60) from if_neg (fun q => by have q1 := q.1; have q2 := q.2.1; first | omega | (have := Zug q.2.2; omega))]
  exact Za9 [2] (v := .tuple #[slv 2 0 0 0, Iv 60]) rfl (by kernel_rfl) rfl rfl (by decide) (by simp [Za6, Zao]) ⟨⟨rfl, rfl, rfl, by first | omega | exact Nat.le_refl _ | exact Nat.zero_le _ | (dsimp only; omega), by first | omega | exact Nat.le_refl _ | exact Nat.zero_le _ | (dsimp only; omega)⟩, rfl, trivial⟩
  refine Zq ((Zar (G := G) x.epoch 1 900000000).res (congrArg Value.bool (Zab (by omega)))) (vals := [Iv x.epoch, Iv 1, Iv 900000000]) (res' := .bool false) rfl rfl rfl rfl rfl rfl ?_
  refine Zgz (vx := .bool false) rfl rfl (.bool true) rfl Zdk ?_
  refine Zj (.bool true) (Za (Zb (Zy rfl (Ze (Zg (Zc (.slice none 0 0) (Zc (Iv 60) (Za (Zb ?_)))))))))
  refine Zb6 (Zbe.nilTmp (i := 2) (b := 2) true 1 rfl (by decide) rfl) ?_
  refine Zr (Z3 (Zs ?_))
  rw [show Zcb x = ([], 60) from if_neg (fun q => by have q1 := q.1; have q2 := q.2.1; first | omega | (have := Zug q.2.2; omega))]
  exact Za9 [2] (v := .tuple #[slv 2 0 0 0, Iv 60]) rfl (by kernel_rfl) rfl rfl (by decide) (by simp [Za6, Zao]) ⟨⟨rfl, rfl, rfl, by first | omega | exact Nat.le_refl _ | exact Nat.zero_le _ | (dsimp only; omega), by first | omega | exact Nat.le_refl _ | exact Nat.zero_le _ | (dsimp only; omega)⟩, rfl, trivial⟩
theorem Zul (kk : Nat → BitVec 32) (hG : G 0 = some (Zag w32 64 kk)) (s : ByteArray) (hs : s.size ≤ 1000000) : Z4 Tryd.prog G 80 [.string s] [] (dgV (lfT kk s)) [] := by
  refine Zbd (fn := Tryd.f80) (nt := 6) rfl rfl rfl rfl ?_
  refine Zae 2 (H' := [hole, hole]) rfl ?_
  refine Ze (Zg (Zaw (b := dgB dz) (nid := 0) (H' := [dgB dz, hole]) (Za (Zb (Ze (Zg (Zd (.string s) ?_)))))))
  refine Zen (vs := [(0, .string Ziw), (1, .string s)]) (v := slv 1 0 2 2) (blk := txB [Ziw, s]) (nid := 1) (H' := [dgB dz, txB [Ziw, s]]) rfl rfl rfl (by kernel_rfl) (by kernel_rfl) ?_
  refine Z0 (e := [some (1, 0)]) (nid := 0) (Zxz (G := G) kk hG [Ziw, s] 2 (by simp) (by intro x hx; simp at hx; rcases hx with rfl | rfl <;> first | omega | (show 1 ≤ _; omega))) (vals := [slv 1 0 2 2]) (v := dgV (Zck kk (Zdx [Ziw, s]))) (H' := [dgB dz, txB [Ziw, s]]) rfl rfl rfl rfl rfl rfl rfl ⟨⟨⟨rfl, rfl, rfl, by first | omega | exact Nat.le_refl _, by first | omega | exact Nat.le_refl _⟩, trivial⟩, ⟨(Z3o rfl), trivial⟩, rfl, rfl, rfl⟩ (by kernel_rfl) (by kernel_rfl) ?_
  refine Zaa (p := pt 0 0) (v := dgV (Zck kk (Zdx [Ziw, s]))) (b := 0) (blk := dgB (Zck kk (Zdx [Ziw, s]))) (H' := [dgB (Zck kk (Zdx [Ziw, s])), txB [Ziw, s]]) (Za (Zb (Zr (Zs ?_))))
  exact Zk (v := dgV (Zck kk (Zdx [Ziw, s]))) (by kernel_rfl) rfl rfl (by kernel_rfl) (Ze1 (Zex fun _ => rfl) rfl)
theorem Z0r (kk : Nat → BitVec 32) (hG : G 0 = some (Zag w32 64 kk)) (x : Item) : Z4 Tryd.prog G 73 [Zcs x] [] (.tuple #[dgV (Zbm kk x).1, Iv (Zbm kk x).2]) [] := by
 refine Zbd (fn := Tryd.f73) (nt := 18) rfl rfl rfl rfl ?_
 refine Zae 3 (H' := [hole, hole, hole]) rfl ?_
 refine Ze (Zg (Zbs (v := Zcs x) (b := bxB 110 (Zb5 x)) (nid := 0) (H' := [bxB 110 (Zb5 x), hole, hole]) (Zaw (b := dgB dz) (nid := 1) (H' := [bxB 110 (Zb5 x), dgB dz, hole]) (Zc (Iv 0) (Za (Zb (Ze (Zg (Zm (p := pt 0 0) (v := Zcs x) ?_)))))))))
 refine Z0 (e := []) (nid := 2) (Ztm (G := G) x) (vals := [Zcs x]) (v := .tuple #[slv 2 0 ((Zcb x).1.length) ((Zcb x).1.length), Iv ((Zcb x).2)]) (H' := [bxB 110 (Zb5 x), dgB dz, Zao ((Zcb x).1)]) rfl rfl rfl rfl rfl rfl rfl ⟨⟨rfl, trivial⟩, trivial, rfl, rfl, rfl⟩ (by kernel_rfl) (by kernel_rfl) ?_
 refine Zd (.tuple #[slv 2 0 ((Zcb x).1.length) ((Zcb x).1.length), Iv ((Zcb x).2)]) (Z1 (vs := #[slv 2 0 ((Zcb x).1.length) ((Zcb x).1.length), Iv ((Zcb x).2)]) (v := slv 2 0 ((Zcb x).1.length) ((Zcb x).1.length)) (Z1 (vs := #[slv 2 0 ((Zcb x).1.length) ((Zcb x).1.length), Iv ((Zcb x).2)]) (v := Iv ((Zcb x).2)) (Zc (slv 2 0 ((Zcb x).1.length) ((Zcb x).1.length)) (Zc (Iv ((Zcb x).2)) (Za (Zb (Ze (Ze (Zg (Zd (Iv ((Zcb x).2)) ?_))))))))))
 by_cases h1 : ((Zcb x).2) ≠ 0
 refine Zl (vx := Iv ((Zcb x).2)) (vy := Iv 0) rfl rfl (.bool true) rfl rfl (Zfc (by omega)) ?_
 refine Za (Zb (Zy rfl (Ze (Zg ?_))))
 refine Zcz (vs := []) (v := dgV dz) rfl rfl rfl (by kernel_rfl) ?_
 refine Zd (Iv ((Zcb x).2)) (Zaa (p := pt 1 0) (v := dgV dz) (b := 1) (blk := dgB dz) (H' := [bxB 110 (Zb5 x), dgB dz, Zao ((Zcb x).1)]) (Zc (Iv ((Zcb x).2)) (Za (Zb (Zr (Z3 (Zs ?_)))))))
 rw [show Zbm kk x = (dz, (Zcb x).2) from by rw [Z37 (by omega)]; exact if_neg (fun q => by have := Zzz q; omega)]
 exact Zk (v := .tuple #[dgV dz, Iv ((Zcb x).2)]) (by kernel_rfl) rfl rfl (by kernel_rfl) ⟨(Ze1 (Zex fun _ => rfl) rfl), rfl, trivial⟩
 refine Zl (vx := Iv ((Zcb x).2)) (vy := Iv 0) rfl rfl (.bool false) rfl rfl (Ze3 (by omega)) ?_
 refine Za (Zb (Zt rfl (Zx (Zb (Ze (Zg (Zd (slv 2 0 ((Zcb x).1.length) ((Zcb x).1.length)) ?_)))))))
 refine Zjd (p := slv 2 0 ((Zcb x).1.length) ((Zcb x).1.length)) (v := .string (Zn ((Zcb x).1))) rfl rfl rfl (Zh4 rfl rfl rfl rfl rfl (by omega)) ?_
 refine Zq (Zul (G := G) kk hG (Zn ((Zcb x).1)) (by rw [Zb8]; have := Zz0 x; omega)) (vals := [.string (Zn ((Zcb x).1))]) (res' := dgV (lfT kk (Zn ((Zcb x).1)))) rfl rfl rfl rfl rfl (by kernel_rfl) ?_
 refine Zaa (p := pt 1 0) (v := dgV (lfT kk (Zn ((Zcb x).1)))) (b := 1) (blk := dgB (lfT kk (Zn ((Zcb x).1)))) (H' := [bxB 110 (Zb5 x), dgB (lfT kk (Zn ((Zcb x).1))), Zao ((Zcb x).1)]) (Zc (Iv 0) (Za (Zb (Zr (Zs ?_)))))
 rw [show Zbm kk x = (lfT kk (Zn (Zcb x).1), 0) from if_pos (Z36 (by omega))]
 exact Zk (v := .tuple #[dgV (lfT kk (Zn ((Zcb x).1))), Iv 0]) (by kernel_rfl) rfl rfl (by kernel_rfl) ⟨(Ze1 (Zex fun _ => rfl) rfl), rfl, trivial⟩
end Go.Flat
