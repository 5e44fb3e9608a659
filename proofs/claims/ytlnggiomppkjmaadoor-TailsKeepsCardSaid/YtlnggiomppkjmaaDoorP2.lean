/- Walks. -/
import Derived.Test.YtlnggiomppkjmaaDoorP1
set_option linter.unusedVariables false
set_option linter.unusedSimpArgs false
set_option maxRecDepth 20000
namespace Go.Flat
open Go.Proofs
variable {G : Glob}
def Zi3 : ByteArray := ⟨#[0]⟩
theorem Zqh (s : Signed) : (Zap s).1.length ≤ 1000 := by
 by_cases hm : Zup s
 ·rw [Zxw hm]
  have := Zg5 (Zgg 0 (Zlx s)) 0 []
  have h1 := Za4 s.node
  have h2 := Zt7 s.head
  simp only [Zlx, Zgg, Zmw, Zcc, Zju, List.length_nil] at this
  show (Z3 (Zgg 0 (Zlx s)) 0 []).1.length ≤ 1000
  simp only [Zlx, Zgg]
  omega
 ·rw [Zxv hm]; exact Nat.zero_le _
def Zmd (e : Entry) : List Field := if e.kind = 1 then [⟨1, (Zp e.kind).1⟩, ⟨2, (Zp e.client).1⟩, ⟨3, (Zp e.seq).1⟩, ⟨4, e.text⟩] else if e.kind = 2 then [⟨1, (Zp e.kind).1⟩, ⟨5, Zo (Zap e.head).1⟩] else [⟨1, (Zp e.kind).1⟩, ⟨6, Zo (Zcb e.claim).1⟩]
theorem Zoz {e : Entry} (h : Zfj e) : 1 ≤ e.kind ∧ e.kind ≤ 3 := by
 rcases h with q | q | q <;> have := q.1 <;> omega
theorem Zko {e : Entry} (h : Zfj e) (hk : e.kind = 1) : (1 ≤ e.client ∧ e.client ≤ 3) ∧ (1 ≤ e.seq ∧ e.seq ≤ 1000000) ∧ e.text.size ≤ 200 := by
 rcases h with q | q | q
 ·exact ⟨⟨q.2.1, q.2.2.1⟩, ⟨q.2.2.2.1, q.2.2.2.2.1⟩, q.2.2.2.2.2.1⟩
 ·have := q.1; omega
 ·have := q.1; omega
theorem Z4n (a b : Field) (ha : 0 < a.tag) (hab : a.tag < b.tag) (hb : b.tag ≤ 255) (h1 : a.data.size ≤ 65536) (h2 : b.data.size ≤ 65536) : (Z3 [a, b] 0 []).2 = 0 := by
 have ea : Ze0 a 0 = 0 := by unfold Ze0; rw [if_neg (by omega), if_neg (by omega), if_neg (by omega)]
 have eb : Ze0 b a.tag = 0 := by unfold Ze0; rw [if_neg (by omega), if_neg (by omega), if_neg (by omega)]
 rw [Z3, if_pos ea, Z3, if_pos eb, Z3]
theorem Zq1 {e : Entry} (h : Zfj e) : (Z3 (Zmd e) 0 []).2 = 0 := by
 have hk := Zoz h
 have n1 := Za4 e.kind
 unfold Zmd
 split
 ·rename_i h1
  have hu := Zko h h1
  have n2 := Za4 e.client
  have n3 := Za4 e.seq
  have h := Zmj [(Zp e.kind).1, (Zp e.client).1, (Zp e.seq).1, e.text] 0 [] (by simp) (by
   intro x hx
   simp only [List.mem_cons, List.not_mem_nil, or_false] at hx
   rcases hx with rfl | rfl | rfl | rfl <;> omega)
  show (Z3 (Zgg 0 [(Zp e.kind).1, (Zp e.client).1, (Zp e.seq).1, e.text]) ((0 : Nat) : Int) []).2 = 0
  rw [h]
 ·split
  ·exact Z4n _ _ (by show (0 : Int) < 1; decide) (by show (1 : Int) < 5; decide) (by show (5 : Int) ≤ 255; decide) (by show (Zp e.kind).1.size ≤ 65536; omega) (by show (Zo (Zap e.head).1).size ≤ 65536; rw [Zcc]; have := Zqh e.head; omega)
  ·exact Z4n _ _ (by show (0 : Int) < 1; decide) (by show (1 : Int) < 6; decide) (by show (6 : Int) ≤ 255; decide) (by show (Zp e.kind).1.size ≤ 65536; omega) (by show (Zo (Zcb e.claim).1).size ≤ 65536; rw [Zcc]; have := Ztc e.claim; omega)
def Zbj (e : Entry) : Bs × Int := if Zfj e then ((Z3 (Zmd e) 0 []).1, 0) else ([], 60)
theorem Zuv {e : Entry} (h : Zfj e) : (Zbj e).2 = 0 := by rw [show Zbj e = _ from if_pos h]
theorem Z4r {e : Entry} (h : (Zbj e).2 = 0) : Zfj e := by
 refine Decidable.byContradiction fun q => ?_
 rw [show Zbj e = ([], 60) from if_neg q] at h; exact absurd h (by decide)
theorem Ztd (e : Entry) : (Zbj e).1.length ≤ 2000 := by
 by_cases h : Zfj e
 ·rw [show Zbj e = _ from if_pos h]
  show (Z3 (Zmd e) 0 []).1.length ≤ 2000
  have h1 := Zg5 (Zmd e) 0 []
  have n1 := Za4 e.kind
  have n2 := Za4 e.client
  have n3 := Za4 e.seq
  have n4 := Zqh e.head
  have n5 := Ztc e.claim
  have h2 : Zmw (Zmd e) ≤ 2000 := by
   unfold Zmd
   split
   ·have := (Zko h (by assumption)).2.2
    simp only [Zmw]; omega
   ·split
    ·simp only [Zmw, Zcc]; omega
    ·simp only [Zmw, Zcc]; omega
  simp only [List.length_nil] at h1
  omega
 ·rw [show Zbj e = ([], 60) from if_neg h]; exact Nat.zero_le _
def Zoh (x : Item) : List Field := [⟨1, (Zp x.epoch).1⟩, ⟨2, Zo (Zbj x.entry).1⟩]
theorem Zzh (x : Item) : (Z3 (Zoh x) 0 []).2 = 0 := by
 have n1 := Za4 x.epoch
 have n2 := Ztd x.entry
 exact Z4n _ _ (by show (0 : Int) < 1; decide) (by show (1 : Int) < 2; decide) (by show (2 : Int) ≤ 255; decide) (by show (Zp x.epoch).1.size ≤ 65536; omega) (by show (Zo (Zbj x.entry).1).size ≤ 65536; rw [Zcc]; omega)
def Zch (x : Item) : Bs × Int := if Zdg x then ((Z3 (Zoh x) 0 []).1, 0) else ([], 60)
theorem Z0g {x : Item} (h : Zdg x) : (Zch x).2 = 0 := by rw [show Zch x = _ from if_pos h]
theorem Z4s {x : Item} (h : (Zch x).2 = 0) : Zdg x := by
 refine Decidable.byContradiction fun q => ?_
 rw [show Zch x = ([], 60) from if_neg q] at h; exact absurd h (by decide)
theorem Z4t {x : Item} (h : (Zch x).2 ≠ 0) : (Zch x).2 = 60 := by
 by_cases q : Zdg x
 ·exact absurd (Z0g q) h
 ·rw [show Zch x = ([], 60) from if_neg q]
theorem Z0h (x : Item) : (Zch x).1.length ≤ 2100 := by
 unfold Zch
 split
 ·have h1 := Zg5 (Zoh x) 0 []
  have n1 := Za4 x.epoch
  have n2 := Ztd x.entry
  simp only [Zoh, Zmw, Zcc, List.length_nil] at h1
  show (Z3 (Zoh x) 0 []).1.length ≤ 2100
  simp only [Zoh]; omega
 ·exact Nat.zero_le _
def lfT (kk : Nat → BitVec 32) (s : ByteArray) : D := Zct kk (Zd2 [Zi3, s])
def Zbp (kk : Nat → BitVec 32) (x : Item) : D × Int := if Zdg x then (lfT kk (Zo (Zch x).1), 0) else (dz, 60)
theorem Z1a (e : Entry) : Z6 Tryd.prog G 82 [Zd1 e] [] (.tuple #[slv 0 0 (Zbj e).1.length (Zbj e).1.length, Iv (Zbj e).2]) [Zao (Zbj e).1] := by
  refine Zbh (fn := Tryd.f82) (nt := 57) rfl rfl rfl rfl ?_
  refine Zaf 5 (H' := [hole, hole, hole, hole, hole]) rfl ?_
  refine Zf (Zg (Zb7 (v := Zd1 e) (b := bxB 109 (Zdf e)) (nid := 0) (H' := [bxB 109 (Zdf e), hole, hole, hole, hole]) (Zb (.slice none 0 0) (Zb (Iv 0) (Za (Zc (Zf (Zf (Zg (Zn (p := pt 0 0) (v := Zd1 e) ?_))))))))))
  refine Zs (Zmx (G := G) e) (vals := [Zd1 e]) (res' := Iv (Zel e)) rfl rfl rfl rfl rfl rfl ?_
  refine Zb (Iv (Zel e)) (Za (Zc (Zf (Zg (Zd (Iv (Zel e)) ?_)))))
  by_cases h1 : (Zel e) ≠ 0
  refine Zl (vx := Iv (Zel e)) (vy := Iv 0) rfl rfl (.bool true) rfl rfl (Zgf (by omega)) ?_
  refine Za (Zc (Zy rfl (Zf (Zg (Zd (Iv (Zel e)) (Zb (.slice none 0 0) (Zb (Iv (Zel e)) (Za (Zc ?_)))))))))
  refine Zca (Za7.nilTmp (i := 2) (b := 1) true 1 rfl (by decide) rfl) ?_
  refine Zr (Z2 (Zt ?_))
  rw [show Zbj e = ([], Zel e) from by rw [show Zel e = 60 from if_neg (Zi8 (by omega))]; exact if_neg (Zi8 (by omega))]
  exact Zbc [1] (v := .tuple #[slv 1 0 0 0, Iv (Zel e)]) rfl (by kernel_rfl) rfl rfl (by decide) (by simp [Zbe, Zao]) ⟨⟨rfl, rfl, rfl, by first | omega | exact Nat.le_refl _ | exact Nat.zero_le _ | (dsimp only; omega), by first | omega | exact Nat.le_refl _ | exact Nat.zero_le _ | (dsimp only; omega)⟩, rfl, trivial⟩
  refine Zl (vx := Iv (Zel e)) (vy := Iv 0) rfl rfl (.bool false) rfl rfl (Zfw (by omega)) ?_
  refine Za (Zc (Zu rfl (Zz (Zc (Zf (Zg (Za9 (b := rfB (.slice none 0 0)) (nid := 1) (H' := [bxB 109 (Zdf e), rfB (.slice none 0 0), hole, hole, hole]) (Za (Zc (Zf ?_))))))))))
  have hr := Zr6 (e := e) (by omega)
  have hk := Zoz hr
  refine Zca (Za7.nilCell (k := 1) (j := 0) (b := 2) true 2 rfl (by decide) rfl (by show 0 < 1; decide) rfl rfl) ?_
  refine Zg (Zh (b := 0) (o := 0) (n := 0) (o' := 0) (Zn (p := pt 0 0) (v := Iv e.kind) ?_))
  refine Zcp (e := [some (1, 0), some (2, 0)]) (nid := 0) (Zlb (G := G) [] 0 1 e.kind rfl (by omega) (by omega) (by omega)) (vals := [pt 1 0, Iv 1, Iv e.kind]) (v := .tuple #[]) (H' := [bxB 109 (Zdf e), rfB (slv 2 0 1 1), rwB cFd ([] ++ [(⟨1, (Zp e.kind).1⟩ : Field)]), hole, hole]) rfl rfl rfl rfl rfl rfl ⟨⟨⟨rfl, rfl⟩, rfl, rfl, trivial⟩, ⟨(Zad rfl rfl rfl rfl), (Zad rfl rfl rfl rfl), trivial⟩, rfl, rfl, rfl, Nat.le_refl _⟩ (by kernel_rfl) rfl (by kernel_rfl) ?_
  refine Za (Zc (Zf (Zf (Zg (Zh (b := 0) (o := 0) (n := 0) (o' := 0) (Zn (p := pt 0 0) (v := Iv e.kind) (Za (Zc (Z8 (Zf (Zg ?_)))))))))))
  by_cases h2 : e.kind = 1
  refine Zl (vx := Iv e.kind) (vy := Iv 1) rfl rfl (.bool true) rfl rfl (Zdp (by omega)) ?_
  refine Zb (.bool true) (Za (Zc (Zy rfl (Zf ?_))))
  have hu := Zko hr (by omega)
  refine Zg (Zh (b := 0) (o := 0) (n := 1) (o' := 1) (Zn (p := pt 0 1) (v := Iv e.client) ?_))
  refine Zcp (e := [some (1, 0), some (2, 0)]) (nid := 0) (Zlb (G := G) ([] ++ [(⟨1, (Zp e.kind).1⟩ : Field)]) 1 2 e.client rfl (by omega) (by omega) (by omega)) (vals := [pt 1 0, Iv 2, Iv e.client]) (v := .tuple #[]) (H' := [bxB 109 (Zdf e), rfB (slv 2 0 2 2), rwB cFd (([] ++ [(⟨1, (Zp e.kind).1⟩ : Field)]) ++ [(⟨2, (Zp e.client).1⟩ : Field)]), hole, hole]) rfl rfl rfl rfl rfl rfl ⟨⟨⟨rfl, rfl⟩, rfl, rfl, trivial⟩, ⟨(Zad rfl rfl rfl rfl), (Zad rfl rfl rfl rfl), trivial⟩, rfl, rfl, rfl, Nat.le_refl _⟩ (by kernel_rfl) rfl (by kernel_rfl) ?_
  refine Za (Zc (Zf (Zg (Zh (b := 0) (o := 0) (n := 2) (o' := 2) (Zn (p := pt 0 2) (v := Iv e.seq) ?_)))))
  refine Zcp (e := [some (1, 0), some (2, 0)]) (nid := 0) (Zlb (G := G) (([] ++ [(⟨1, (Zp e.kind).1⟩ : Field)]) ++ [(⟨2, (Zp e.client).1⟩ : Field)]) 2 3 e.seq rfl (by omega) (by omega) (by omega)) (vals := [pt 1 0, Iv 3, Iv e.seq]) (v := .tuple #[]) (H' := [bxB 109 (Zdf e), rfB (slv 2 0 3 3), rwB cFd ((([] ++ [(⟨1, (Zp e.kind).1⟩ : Field)]) ++ [(⟨2, (Zp e.client).1⟩ : Field)]) ++ [(⟨3, (Zp e.seq).1⟩ : Field)]), hole, hole]) rfl rfl rfl rfl rfl rfl ⟨⟨⟨rfl, rfl⟩, rfl, rfl, trivial⟩, ⟨(Zad rfl rfl rfl rfl), (Zad rfl rfl rfl rfl), trivial⟩, rfl, rfl, rfl, Nat.le_refl _⟩ (by kernel_rfl) rfl (by kernel_rfl) ?_
  refine Za (Zc (Zg (Zh (b := 0) (o := 0) (n := 3) (o' := 3) (Zn (p := pt 0 3) (v := .string e.text) ?_))))
  refine Zcp (e := [some (1, 0), some (2, 0)]) (nid := 0) (Zjv (G := G) ((([] ++ [(⟨1, (Zp e.kind).1⟩ : Field)]) ++ [(⟨2, (Zp e.client).1⟩ : Field)]) ++ [(⟨3, (Zp e.seq).1⟩ : Field)]) 3 4 e.text rfl (by omega)) (vals := [pt 1 0, Iv 4, .string e.text]) (v := .tuple #[]) (H' := [bxB 109 (Zdf e), rfB (slv 2 0 4 4), rwB cFd (((([] ++ [(⟨1, (Zp e.kind).1⟩ : Field)]) ++ [(⟨2, (Zp e.client).1⟩ : Field)]) ++ [(⟨3, (Zp e.seq).1⟩ : Field)]) ++ [(⟨4, e.text⟩ : Field)]), hole, hole]) rfl rfl rfl rfl rfl rfl ⟨⟨⟨rfl, rfl⟩, rfl, rfl, trivial⟩, ⟨(Zad rfl rfl rfl rfl), (Zad rfl rfl rfl rfl), trivial⟩, rfl, rfl, rfl, Nat.le_refl _⟩ (by kernel_rfl) rfl (by kernel_rfl) ?_
  refine Za (Z7 (Zc (Zf (Zg ?_))))
  refine Zal (p := pt 1 0) (v := slv 2 0 4 4) rfl rfl rfl rfl ?_
  refine Z5 (e := [some (2, 0)]) (nid := 3) (Zgc (G := G) (((([] ++ [(⟨1, (Zp e.kind).1⟩ : Field)]) ++ [(⟨2, (Zp e.client).1⟩ : Field)]) ++ [(⟨3, (Zp e.seq).1⟩ : Field)]) ++ [(⟨4, e.text⟩ : Field)]) 4 4 rfl (by omega) (by omega)) (vals := [slv 2 0 4 4]) (v := .tuple #[slv 3 0 ((Z3 (((([] ++ [(⟨1, (Zp e.kind).1⟩ : Field)]) ++ [(⟨2, (Zp e.client).1⟩ : Field)]) ++ [(⟨3, (Zp e.seq).1⟩ : Field)]) ++ [(⟨4, e.text⟩ : Field)]) 0 []).1.length) ((Z3 (((([] ++ [(⟨1, (Zp e.kind).1⟩ : Field)]) ++ [(⟨2, (Zp e.client).1⟩ : Field)]) ++ [(⟨3, (Zp e.seq).1⟩ : Field)]) ++ [(⟨4, e.text⟩ : Field)]) 0 []).1.length), Iv ((Z3 (((([] ++ [(⟨1, (Zp e.kind).1⟩ : Field)]) ++ [(⟨2, (Zp e.client).1⟩ : Field)]) ++ [(⟨3, (Zp e.seq).1⟩ : Field)]) ++ [(⟨4, e.text⟩ : Field)]) 0 []).2)]) (H' := [bxB 109 (Zdf e), rfB (slv 2 0 4 4), rwB cFd (((([] ++ [(⟨1, (Zp e.kind).1⟩ : Field)]) ++ [(⟨2, (Zp e.client).1⟩ : Field)]) ++ [(⟨3, (Zp e.seq).1⟩ : Field)]) ++ [(⟨4, e.text⟩ : Field)]), Zao ((Z3 (((([] ++ [(⟨1, (Zp e.kind).1⟩ : Field)]) ++ [(⟨2, (Zp e.client).1⟩ : Field)]) ++ [(⟨3, (Zp e.seq).1⟩ : Field)]) ++ [(⟨4, e.text⟩ : Field)]) 0 []).1), hole]) rfl rfl rfl rfl rfl rfl rfl ⟨⟨⟨rfl, rfl, rfl, by first | omega | exact Nat.le_refl _, by first | omega | exact Nat.le_refl _⟩, trivial⟩, ⟨(Zb8 rfl), trivial⟩, rfl, rfl, rfl⟩ (by kernel_rfl) (by kernel_rfl) ?_
  refine Z1 (vs := #[slv 3 0 ((Z3 (((([] ++ [(⟨1, (Zp e.kind).1⟩ : Field)]) ++ [(⟨2, (Zp e.client).1⟩ : Field)]) ++ [(⟨3, (Zp e.seq).1⟩ : Field)]) ++ [(⟨4, e.text⟩ : Field)]) 0 []).1.length) ((Z3 (((([] ++ [(⟨1, (Zp e.kind).1⟩ : Field)]) ++ [(⟨2, (Zp e.client).1⟩ : Field)]) ++ [(⟨3, (Zp e.seq).1⟩ : Field)]) ++ [(⟨4, e.text⟩ : Field)]) 0 []).1.length), Iv ((Z3 (((([] ++ [(⟨1, (Zp e.kind).1⟩ : Field)]) ++ [(⟨2, (Zp e.client).1⟩ : Field)]) ++ [(⟨3, (Zp e.seq).1⟩ : Field)]) ++ [(⟨4, e.text⟩ : Field)]) 0 []).2)]) (v := slv 3 0 ((Z3 (((([] ++ [(⟨1, (Zp e.kind).1⟩ : Field)]) ++ [(⟨2, (Zp e.client).1⟩ : Field)]) ++ [(⟨3, (Zp e.seq).1⟩ : Field)]) ++ [(⟨4, e.text⟩ : Field)]) 0 []).1.length) ((Z3 (((([] ++ [(⟨1, (Zp e.kind).1⟩ : Field)]) ++ [(⟨2, (Zp e.client).1⟩ : Field)]) ++ [(⟨3, (Zp e.seq).1⟩ : Field)]) ++ [(⟨4, e.text⟩ : Field)]) 0 []).1.length)) (Z1 (vs := #[slv 3 0 ((Z3 (((([] ++ [(⟨1, (Zp e.kind).1⟩ : Field)]) ++ [(⟨2, (Zp e.client).1⟩ : Field)]) ++ [(⟨3, (Zp e.seq).1⟩ : Field)]) ++ [(⟨4, e.text⟩ : Field)]) 0 []).1.length) ((Z3 (((([] ++ [(⟨1, (Zp e.kind).1⟩ : Field)]) ++ [(⟨2, (Zp e.client).1⟩ : Field)]) ++ [(⟨3, (Zp e.seq).1⟩ : Field)]) ++ [(⟨4, e.text⟩ : Field)]) 0 []).1.length), Iv ((Z3 (((([] ++ [(⟨1, (Zp e.kind).1⟩ : Field)]) ++ [(⟨2, (Zp e.client).1⟩ : Field)]) ++ [(⟨3, (Zp e.seq).1⟩ : Field)]) ++ [(⟨4, e.text⟩ : Field)]) 0 []).2)]) (v := Iv ((Z3 (((([] ++ [(⟨1, (Zp e.kind).1⟩ : Field)]) ++ [(⟨2, (Zp e.client).1⟩ : Field)]) ++ [(⟨3, (Zp e.seq).1⟩ : Field)]) ++ [(⟨4, e.text⟩ : Field)]) 0 []).2)) (Zb (slv 3 0 ((Z3 (((([] ++ [(⟨1, (Zp e.kind).1⟩ : Field)]) ++ [(⟨2, (Zp e.client).1⟩ : Field)]) ++ [(⟨3, (Zp e.seq).1⟩ : Field)]) ++ [(⟨4, e.text⟩ : Field)]) 0 []).1.length) ((Z3 (((([] ++ [(⟨1, (Zp e.kind).1⟩ : Field)]) ++ [(⟨2, (Zp e.client).1⟩ : Field)]) ++ [(⟨3, (Zp e.seq).1⟩ : Field)]) ++ [(⟨4, e.text⟩ : Field)]) 0 []).1.length)) (Zb (Iv ((Z3 (((([] ++ [(⟨1, (Zp e.kind).1⟩ : Field)]) ++ [(⟨2, (Zp e.client).1⟩ : Field)]) ++ [(⟨3, (Zp e.seq).1⟩ : Field)]) ++ [(⟨4, e.text⟩ : Field)]) 0 []).2)) (Za (Zc (Zr (Zt ?_)))))))
  have ee : (((([] ++ [(⟨1, (Zp e.kind).1⟩ : Field)]) ++ [(⟨2, (Zp e.client).1⟩ : Field)]) ++ [(⟨3, (Zp e.seq).1⟩ : Field)]) ++ [(⟨4, e.text⟩ : Field)]) = Zmd e := by unfold Zmd; first | (rw [if_pos (by omega)]; done) | (rw [if_pos (by omega)]; rfl) | (rw [if_neg (by omega), if_pos (by omega)]; rfl) | (rw [if_neg (by omega), if_neg (by omega)]; rfl)
  have ez := Zq1 hr
  rw [← ee] at ez
  rw [show Zbj e = ((Z3 (((([] ++ [(⟨1, (Zp e.kind).1⟩ : Field)]) ++ [(⟨2, (Zp e.client).1⟩ : Field)]) ++ [(⟨3, (Zp e.seq).1⟩ : Field)]) ++ [(⟨4, e.text⟩ : Field)]) 0 []).1, (Z3 (((([] ++ [(⟨1, (Zp e.kind).1⟩ : Field)]) ++ [(⟨2, (Zp e.client).1⟩ : Field)]) ++ [(⟨3, (Zp e.seq).1⟩ : Field)]) ++ [(⟨4, e.text⟩ : Field)]) 0 []).2) from by rw [ez, ee]; exact if_pos hr]
  exact Zbc [3] (v := .tuple #[slv 3 0 ((Z3 (((([] ++ [(⟨1, (Zp e.kind).1⟩ : Field)]) ++ [(⟨2, (Zp e.client).1⟩ : Field)]) ++ [(⟨3, (Zp e.seq).1⟩ : Field)]) ++ [(⟨4, e.text⟩ : Field)]) 0 []).1.length) ((Z3 (((([] ++ [(⟨1, (Zp e.kind).1⟩ : Field)]) ++ [(⟨2, (Zp e.client).1⟩ : Field)]) ++ [(⟨3, (Zp e.seq).1⟩ : Field)]) ++ [(⟨4, e.text⟩ : Field)]) 0 []).1.length), Iv ((Z3 (((([] ++ [(⟨1, (Zp e.kind).1⟩ : Field)]) ++ [(⟨2, (Zp e.client).1⟩ : Field)]) ++ [(⟨3, (Zp e.seq).1⟩ : Field)]) ++ [(⟨4, e.text⟩ : Field)]) 0 []).2)]) rfl (by kernel_rfl) rfl rfl (by decide) (by simp [Zbe, Zao]) ⟨⟨rfl, rfl, rfl, by first | omega | exact Nat.le_refl _ | exact Nat.zero_le _ | (dsimp only; omega), by first | omega | exact Nat.le_refl _ | exact Nat.zero_le _ | (dsimp only; omega)⟩, rfl, trivial⟩
  refine Zl (vx := Iv e.kind) (vy := Iv 1) rfl rfl (.bool false) rfl rfl (Zef (by omega)) ?_
  refine Zb (.bool false) (Za (Zc (Zu rfl (Zf (Zg ?_)))))
  by_cases h3 : e.kind = 2
  refine Zl (vx := Iv e.kind) (vy := Iv 2) rfl rfl (.bool true) rfl rfl (Zdp (by omega)) ?_
  refine Zb (.bool true) (Za (Zc (Zy rfl (Zf (Zg (Zh (b := 0) (o := 0) (n := 4) (o' := 4) (Zn (p := pt 0 4) (v := Zf9 e.head) ?_)))))))
  refine Z5 (e := []) (nid := 3) (Zqs (G := G) e.head) (vals := [Zf9 e.head]) (v := .tuple #[slv 3 0 ((Zap e.head).1.length) ((Zap e.head).1.length), Iv ((Zap e.head).2)]) (H' := [bxB 109 (Zdf e), rfB (slv 2 0 1 1), rwB cFd ([] ++ [(⟨1, (Zp e.kind).1⟩ : Field)]), Zao ((Zap e.head).1), hole]) rfl rfl rfl rfl rfl rfl rfl ⟨⟨rfl, trivial⟩, trivial, rfl, rfl, rfl⟩ (by kernel_rfl) (by kernel_rfl) ?_
  refine Zd (.tuple #[slv 3 0 ((Zap e.head).1.length) ((Zap e.head).1.length), Iv ((Zap e.head).2)]) (Z1 (vs := #[slv 3 0 ((Zap e.head).1.length) ((Zap e.head).1.length), Iv ((Zap e.head).2)]) (v := slv 3 0 ((Zap e.head).1.length) ((Zap e.head).1.length)) (Z1 (vs := #[slv 3 0 ((Zap e.head).1.length) ((Zap e.head).1.length), Iv ((Zap e.head).2)]) (v := Iv ((Zap e.head).2)) (Zb (slv 3 0 ((Zap e.head).1.length) ((Zap e.head).1.length)) (Zb (Iv ((Zap e.head).2)) (Za (Zc (Zg (Zd (slv 3 0 ((Zap e.head).1.length) ((Zap e.head).1.length)) ?_))))))))
  refine Zjm (p := slv 3 0 ((Zap e.head).1.length) ((Zap e.head).1.length)) (v := .string (Zo ((Zap e.head).1))) rfl rfl rfl (Zie rfl rfl rfl rfl rfl (by omega)) ?_
  refine Zcp (e := [some (1, 0), some (2, 0)]) (nid := 0) (Zjv (G := G) ([] ++ [(⟨1, (Zp e.kind).1⟩ : Field)]) 1 5 (Zo ((Zap e.head).1)) rfl (by omega)) (vals := [pt 1 0, Iv 5, .string (Zo ((Zap e.head).1))]) (v := .tuple #[]) (H' := [bxB 109 (Zdf e), rfB (slv 2 0 2 2), rwB cFd (([] ++ [(⟨1, (Zp e.kind).1⟩ : Field)]) ++ [(⟨5, (Zo ((Zap e.head).1))⟩ : Field)]), Zao ((Zap e.head).1), hole]) rfl rfl rfl rfl rfl rfl ⟨⟨⟨rfl, rfl⟩, rfl, rfl, trivial⟩, ⟨(Zad rfl rfl rfl rfl), (Zad rfl rfl rfl rfl), trivial⟩, rfl, rfl, rfl, Nat.le_refl _⟩ (by kernel_rfl) rfl (by kernel_rfl) ?_
  refine Za (Z7 (Zc (Zf (Zg ?_))))
  refine Zal (p := pt 1 0) (v := slv 2 0 2 2) rfl rfl rfl rfl ?_
  refine Z5 (e := [some (2, 0)]) (nid := 4) (Zgc (G := G) (([] ++ [(⟨1, (Zp e.kind).1⟩ : Field)]) ++ [(⟨5, (Zo ((Zap e.head).1))⟩ : Field)]) 2 2 rfl (by omega) (by omega)) (vals := [slv 2 0 2 2]) (v := .tuple #[slv 4 0 ((Z3 (([] ++ [(⟨1, (Zp e.kind).1⟩ : Field)]) ++ [(⟨5, (Zo ((Zap e.head).1))⟩ : Field)]) 0 []).1.length) ((Z3 (([] ++ [(⟨1, (Zp e.kind).1⟩ : Field)]) ++ [(⟨5, (Zo ((Zap e.head).1))⟩ : Field)]) 0 []).1.length), Iv ((Z3 (([] ++ [(⟨1, (Zp e.kind).1⟩ : Field)]) ++ [(⟨5, (Zo ((Zap e.head).1))⟩ : Field)]) 0 []).2)]) (H' := [bxB 109 (Zdf e), rfB (slv 2 0 2 2), rwB cFd (([] ++ [(⟨1, (Zp e.kind).1⟩ : Field)]) ++ [(⟨5, (Zo ((Zap e.head).1))⟩ : Field)]), Zao ((Zap e.head).1), Zao ((Z3 (([] ++ [(⟨1, (Zp e.kind).1⟩ : Field)]) ++ [(⟨5, (Zo ((Zap e.head).1))⟩ : Field)]) 0 []).1)]) rfl rfl rfl rfl rfl rfl rfl ⟨⟨⟨rfl, rfl, rfl, by first | omega | exact Nat.le_refl _, by first | omega | exact Nat.le_refl _⟩, trivial⟩, ⟨(Zb8 rfl), trivial⟩, rfl, rfl, rfl⟩ (by kernel_rfl) (by kernel_rfl) ?_
  refine Z1 (vs := #[slv 4 0 ((Z3 (([] ++ [(⟨1, (Zp e.kind).1⟩ : Field)]) ++ [(⟨5, (Zo ((Zap e.head).1))⟩ : Field)]) 0 []).1.length) ((Z3 (([] ++ [(⟨1, (Zp e.kind).1⟩ : Field)]) ++ [(⟨5, (Zo ((Zap e.head).1))⟩ : Field)]) 0 []).1.length), Iv ((Z3 (([] ++ [(⟨1, (Zp e.kind).1⟩ : Field)]) ++ [(⟨5, (Zo ((Zap e.head).1))⟩ : Field)]) 0 []).2)]) (v := slv 4 0 ((Z3 (([] ++ [(⟨1, (Zp e.kind).1⟩ : Field)]) ++ [(⟨5, (Zo ((Zap e.head).1))⟩ : Field)]) 0 []).1.length) ((Z3 (([] ++ [(⟨1, (Zp e.kind).1⟩ : Field)]) ++ [(⟨5, (Zo ((Zap e.head).1))⟩ : Field)]) 0 []).1.length)) (Z1 (vs := #[slv 4 0 ((Z3 (([] ++ [(⟨1, (Zp e.kind).1⟩ : Field)]) ++ [(⟨5, (Zo ((Zap e.head).1))⟩ : Field)]) 0 []).1.length) ((Z3 (([] ++ [(⟨1, (Zp e.kind).1⟩ : Field)]) ++ [(⟨5, (Zo ((Zap e.head).1))⟩ : Field)]) 0 []).1.length), Iv ((Z3 (([] ++ [(⟨1, (Zp e.kind).1⟩ : Field)]) ++ [(⟨5, (Zo ((Zap e.head).1))⟩ : Field)]) 0 []).2)]) (v := Iv ((Z3 (([] ++ [(⟨1, (Zp e.kind).1⟩ : Field)]) ++ [(⟨5, (Zo ((Zap e.head).1))⟩ : Field)]) 0 []).2)) (Zb (slv 4 0 ((Z3 (([] ++ [(⟨1, (Zp e.kind).1⟩ : Field)]) ++ [(⟨5, (Zo ((Zap e.head).1))⟩ : Field)]) 0 []).1.length) ((Z3 (([] ++ [(⟨1, (Zp e.kind).1⟩ : Field)]) ++ [(⟨5, (Zo ((Zap e.head).1))⟩ : Field)]) 0 []).1.length)) (Zb (Iv ((Z3 (([] ++ [(⟨1, (Zp e.kind).1⟩ : Field)]) ++ [(⟨5, (Zo ((Zap e.head).1))⟩ : Field)]) 0 []).2)) (Za (Zc (Zr (Zt ?_)))))))
  have ee : (([] ++ [(⟨1, (Zp e.kind).1⟩ : Field)]) ++ [(⟨5, (Zo ((Zap e.head).1))⟩ : Field)]) = Zmd e := by unfold Zmd; first | (rw [if_pos (by omega)]; done) | (rw [if_pos (by omega)]; rfl) | (rw [if_neg (by omega), if_pos (by omega)]; rfl) | (rw [if_neg (by omega), if_neg (by omega)]; rfl)
  have ez := Zq1 hr
  rw [← ee] at ez
  rw [show Zbj e = ((Z3 (([] ++ [(⟨1, (Zp e.kind).1⟩ : Field)]) ++ [(⟨5, (Zo ((Zap e.head).1))⟩ : Field)]) 0 []).1, (Z3 (([] ++ [(⟨1, (Zp e.kind).1⟩ : Field)]) ++ [(⟨5, (Zo ((Zap e.head).1))⟩ : Field)]) 0 []).2) from by rw [ez, ee]; exact if_pos hr]
  exact Zbc [4] (v := .tuple #[slv 4 0 ((Z3 (([] ++ [(⟨1, (Zp e.kind).1⟩ : Field)]) ++ [(⟨5, (Zo ((Zap e.head).1))⟩ : Field)]) 0 []).1.length) ((Z3 (([] ++ [(⟨1, (Zp e.kind).1⟩ : Field)]) ++ [(⟨5, (Zo ((Zap e.head).1))⟩ : Field)]) 0 []).1.length), Iv ((Z3 (([] ++ [(⟨1, (Zp e.kind).1⟩ : Field)]) ++ [(⟨5, (Zo ((Zap e.head).1))⟩ : Field)]) 0 []).2)]) rfl (by kernel_rfl) rfl rfl (by decide) (by simp [Zbe, Zao]) ⟨⟨rfl, rfl, rfl, by first | omega | exact Nat.le_refl _ | exact Nat.zero_le _ | (dsimp only; omega), by first | omega | exact Nat.le_refl _ | exact Nat.zero_le _ | (dsimp only; omega)⟩, rfl, trivial⟩
  refine Zl (vx := Iv e.kind) (vy := Iv 2) rfl rfl (.bool false) rfl rfl (Zef (by omega)) ?_
  refine Zb (.bool false) (Za (Zc (Zu rfl (Zf (Zg ?_)))))
  refine Zl (vx := Iv e.kind) (vy := Iv 3) rfl rfl (.bool true) rfl rfl (Zdp (by omega)) ?_
  refine Zb (.bool true) (Za (Zc (Zy rfl (Zf (Zg (Zh (b := 0) (o := 0) (n := 73) (o' := 73) (Zn (p := pt 0 73) (v := Zai e.claim) ?_)))))))
  refine Z5 (e := []) (nid := 3) (Zru (G := G) e.claim) (vals := [Zai e.claim]) (v := .tuple #[slv 3 0 ((Zcb e.claim).1.length) ((Zcb e.claim).1.length), Iv ((Zcb e.claim).2)]) (H' := [bxB 109 (Zdf e), rfB (slv 2 0 1 1), rwB cFd ([] ++ [(⟨1, (Zp e.kind).1⟩ : Field)]), Zao ((Zcb e.claim).1), hole]) rfl rfl rfl rfl rfl rfl rfl ⟨⟨rfl, trivial⟩, trivial, rfl, rfl, rfl⟩ (by kernel_rfl) (by kernel_rfl) ?_
  refine Zd (.tuple #[slv 3 0 ((Zcb e.claim).1.length) ((Zcb e.claim).1.length), Iv ((Zcb e.claim).2)]) (Z1 (vs := #[slv 3 0 ((Zcb e.claim).1.length) ((Zcb e.claim).1.length), Iv ((Zcb e.claim).2)]) (v := slv 3 0 ((Zcb e.claim).1.length) ((Zcb e.claim).1.length)) (Z1 (vs := #[slv 3 0 ((Zcb e.claim).1.length) ((Zcb e.claim).1.length), Iv ((Zcb e.claim).2)]) (v := Iv ((Zcb e.claim).2)) (Zb (slv 3 0 ((Zcb e.claim).1.length) ((Zcb e.claim).1.length)) (Zb (Iv ((Zcb e.claim).2)) (Za (Zc (Zg (Zd (slv 3 0 ((Zcb e.claim).1.length) ((Zcb e.claim).1.length)) ?_))))))))
  refine Zjm (p := slv 3 0 ((Zcb e.claim).1.length) ((Zcb e.claim).1.length)) (v := .string (Zo ((Zcb e.claim).1))) rfl rfl rfl (Zie rfl rfl rfl rfl rfl (by omega)) ?_
  refine Zcp (e := [some (1, 0), some (2, 0)]) (nid := 0) (Zjv (G := G) ([] ++ [(⟨1, (Zp e.kind).1⟩ : Field)]) 1 6 (Zo ((Zcb e.claim).1)) rfl (by omega)) (vals := [pt 1 0, Iv 6, .string (Zo ((Zcb e.claim).1))]) (v := .tuple #[]) (H' := [bxB 109 (Zdf e), rfB (slv 2 0 2 2), rwB cFd (([] ++ [(⟨1, (Zp e.kind).1⟩ : Field)]) ++ [(⟨6, (Zo ((Zcb e.claim).1))⟩ : Field)]), Zao ((Zcb e.claim).1), hole]) rfl rfl rfl rfl rfl rfl ⟨⟨⟨rfl, rfl⟩, rfl, rfl, trivial⟩, ⟨(Zad rfl rfl rfl rfl), (Zad rfl rfl rfl rfl), trivial⟩, rfl, rfl, rfl, Nat.le_refl _⟩ (by kernel_rfl) rfl (by kernel_rfl) ?_
  refine Za (Z7 (Zc (Zf (Zg ?_))))
  refine Zal (p := pt 1 0) (v := slv 2 0 2 2) rfl rfl rfl rfl ?_
  refine Z5 (e := [some (2, 0)]) (nid := 4) (Zgc (G := G) (([] ++ [(⟨1, (Zp e.kind).1⟩ : Field)]) ++ [(⟨6, (Zo ((Zcb e.claim).1))⟩ : Field)]) 2 2 rfl (by omega) (by omega)) (vals := [slv 2 0 2 2]) (v := .tuple #[slv 4 0 ((Z3 (([] ++ [(⟨1, (Zp e.kind).1⟩ : Field)]) ++ [(⟨6, (Zo ((Zcb e.claim).1))⟩ : Field)]) 0 []).1.length) ((Z3 (([] ++ [(⟨1, (Zp e.kind).1⟩ : Field)]) ++ [(⟨6, (Zo ((Zcb e.claim).1))⟩ : Field)]) 0 []).1.length), Iv ((Z3 (([] ++ [(⟨1, (Zp e.kind).1⟩ : Field)]) ++ [(⟨6, (Zo ((Zcb e.claim).1))⟩ : Field)]) 0 []).2)]) (H' := [bxB 109 (Zdf e), rfB (slv 2 0 2 2), rwB cFd (([] ++ [(⟨1, (Zp e.kind).1⟩ : Field)]) ++ [(⟨6, (Zo ((Zcb e.claim).1))⟩ : Field)]), Zao ((Zcb e.claim).1), Zao ((Z3 (([] ++ [(⟨1, (Zp e.kind).1⟩ : Field)]) ++ [(⟨6, (Zo ((Zcb e.claim).1))⟩ : Field)]) 0 []).1)]) rfl rfl rfl rfl rfl rfl rfl ⟨⟨⟨rfl, rfl, rfl, by first | omega | exact Nat.le_refl _, by first | omega | exact Nat.le_refl _⟩, trivial⟩, ⟨(Zb8 rfl), trivial⟩, rfl, rfl, rfl⟩ (by kernel_rfl) (by kernel_rfl) ?_
  refine Z1 (vs := #[slv 4 0 ((Z3 (([] ++ [(⟨1, (Zp e.kind).1⟩ : Field)]) ++ [(⟨6, (Zo ((Zcb e.claim).1))⟩ : Field)]) 0 []).1.length) ((Z3 (([] ++ [(⟨1, (Zp e.kind).1⟩ : Field)]) ++ [(⟨6, (Zo ((Zcb e.claim).1))⟩ : Field)]) 0 []).1.length), Iv ((Z3 (([] ++ [(⟨1, (Zp e.kind).1⟩ : Field)]) ++ [(⟨6, (Zo ((Zcb e.claim).1))⟩ : Field)]) 0 []).2)]) (v := slv 4 0 ((Z3 (([] ++ [(⟨1, (Zp e.kind).1⟩ : Field)]) ++ [(⟨6, (Zo ((Zcb e.claim).1))⟩ : Field)]) 0 []).1.length) ((Z3 (([] ++ [(⟨1, (Zp e.kind).1⟩ : Field)]) ++ [(⟨6, (Zo ((Zcb e.claim).1))⟩ : Field)]) 0 []).1.length)) (Z1 (vs := #[slv 4 0 ((Z3 (([] ++ [(⟨1, (Zp e.kind).1⟩ : Field)]) ++ [(⟨6, (Zo ((Zcb e.claim).1))⟩ : Field)]) 0 []).1.length) ((Z3 (([] ++ [(⟨1, (Zp e.kind).1⟩ : Field)]) ++ [(⟨6, (Zo ((Zcb e.claim).1))⟩ : Field)]) 0 []).1.length), Iv ((Z3 (([] ++ [(⟨1, (Zp e.kind).1⟩ : Field)]) ++ [(⟨6, (Zo ((Zcb e.claim).1))⟩ : Field)]) 0 []).2)]) (v := Iv ((Z3 (([] ++ [(⟨1, (Zp e.kind).1⟩ : Field)]) ++ [(⟨6, (Zo ((Zcb e.claim).1))⟩ : Field)]) 0 []).2)) (Zb (slv 4 0 ((Z3 (([] ++ [(⟨1, (Zp e.kind).1⟩ : Field)]) ++ [(⟨6, (Zo ((Zcb e.claim).1))⟩ : Field)]) 0 []).1.length) ((Z3 (([] ++ [(⟨1, (Zp e.kind).1⟩ : Field)]) ++ [(⟨6, (Zo ((Zcb e.claim).1))⟩ : Field)]) 0 []).1.length)) (Zb (Iv ((Z3 (([] ++ [(⟨1, (Zp e.kind).1⟩ : Field)]) ++ [(⟨6, (Zo ((Zcb e.claim).1))⟩ : Field)]) 0 []).2)) (Za (Zc (Zr (Zt ?_)))))))
  have ee : (([] ++ [(⟨1, (Zp e.kind).1⟩ : Field)]) ++ [(⟨6, (Zo ((Zcb e.claim).1))⟩ : Field)]) = Zmd e := by unfold Zmd; first | (rw [if_pos (by omega)]; done) | (rw [if_pos (by omega)]; rfl) | (rw [if_neg (by omega), if_pos (by omega)]; rfl) | (rw [if_neg (by omega), if_neg (by omega)]; rfl)
  have ez := Zq1 hr
  rw [← ee] at ez
  rw [show Zbj e = ((Z3 (([] ++ [(⟨1, (Zp e.kind).1⟩ : Field)]) ++ [(⟨6, (Zo ((Zcb e.claim).1))⟩ : Field)]) 0 []).1, (Z3 (([] ++ [(⟨1, (Zp e.kind).1⟩ : Field)]) ++ [(⟨6, (Zo ((Zcb e.claim).1))⟩ : Field)]) 0 []).2) from by rw [ez, ee]; exact if_pos hr]
  exact Zbc [4] (v := .tuple #[slv 4 0 ((Z3 (([] ++ [(⟨1, (Zp e.kind).1⟩ : Field)]) ++ [(⟨6, (Zo ((Zcb e.claim).1))⟩ : Field)]) 0 []).1.length) ((Z3 (([] ++ [(⟨1, (Zp e.kind).1⟩ : Field)]) ++ [(⟨6, (Zo ((Zcb e.claim).1))⟩ : Field)]) 0 []).1.length), Iv ((Z3 (([] ++ [(⟨1, (Zp e.kind).1⟩ : Field)]) ++ [(⟨6, (Zo ((Zcb e.claim).1))⟩ : Field)]) 0 []).2)]) rfl (by kernel_rfl) rfl rfl (by decide) (by simp [Zbe, Zao]) ⟨⟨rfl, rfl, rfl, by first | omega | exact Nat.le_refl _ | exact Nat.zero_le _ | (dsimp only; omega), by first | omega | exact Nat.le_refl _ | exact Nat.zero_le _ | (dsimp only; omega)⟩, rfl, trivial⟩
theorem Zt3 (x : Item) : Z6 Tryd.prog G 79 [Zbd x] [] (.tuple #[slv 0 0 (Zch x).1.length (Zch x).1.length, Iv (Zch x).2]) [Zao (Zch x).1] := by
  refine Zbh (fn := Tryd.f79) (nt := 31) rfl rfl rfl rfl ?_
  refine Zaf 5 (H' := [hole, hole, hole, hole, hole]) rfl ?_
  refine Zf (Zg (Zb7 (v := Zbd x) (b := bxB 110 (Zbi x)) (nid := 0) (H' := [bxB 110 (Zbi x), hole, hole, hole, hole]) (Zb (.slice none 0 0) (Zb (Iv 0) (Za (Zc (Zf (Zg (Zh (b := 0) (o := 0) (n := 1) (o' := 1) (Zn (p := pt 0 1) (v := Zd1 x.entry) ?_))))))))))
  refine Z5 (e := []) (nid := 1) (Z1a (G := G) x.entry) (vals := [Zd1 x.entry]) (v := .tuple #[slv 1 0 ((Zbj x.entry).1.length) ((Zbj x.entry).1.length), Iv ((Zbj x.entry).2)]) (H' := [bxB 110 (Zbi x), Zao ((Zbj x.entry).1), hole, hole, hole]) rfl rfl rfl rfl rfl rfl rfl ⟨⟨rfl, trivial⟩, trivial, rfl, rfl, rfl⟩ (by kernel_rfl) (by kernel_rfl) ?_
  refine Zd (.tuple #[slv 1 0 ((Zbj x.entry).1.length) ((Zbj x.entry).1.length), Iv ((Zbj x.entry).2)]) (Z1 (vs := #[slv 1 0 ((Zbj x.entry).1.length) ((Zbj x.entry).1.length), Iv ((Zbj x.entry).2)]) (v := slv 1 0 ((Zbj x.entry).1.length) ((Zbj x.entry).1.length)) (Z1 (vs := #[slv 1 0 ((Zbj x.entry).1.length) ((Zbj x.entry).1.length), Iv ((Zbj x.entry).2)]) (v := Iv ((Zbj x.entry).2)) (Zb (slv 1 0 ((Zbj x.entry).1.length) ((Zbj x.entry).1.length)) (Zb (Iv ((Zbj x.entry).2)) (Za (Zc (Zf (Zf (Zg (Zd (Iv ((Zbj x.entry).2)) ?_))))))))))
  by_cases h1 : ((Zbj x.entry).2) ≠ 0
  refine Zl (vx := Iv ((Zbj x.entry).2)) (vy := Iv 0) rfl rfl (.bool true) rfl rfl (Zgf (by omega)) ?_
  refine Zd (.bool true) (Ze (Ze (Ze (Ze (Zk (.bool true) (Za (Zc (Zy rfl (Zf (Zg (Zb (.slice none 0 0) (Zb (Iv 60) (Za (Zc ?_))))))))))))))
  refine Zca (Za7.nilTmp (i := 2) (b := 2) true 1 rfl (by decide) rfl) ?_
  refine Zr (Z2 (Zt ?_))
  rw [show Zch x = ([], 60) from if_neg (fun q => by have q1 := q.1; have q2 := q.2.1; first | omega | (have := Zuv q.2.2; omega))]
  exact Zbc [2] (v := .tuple #[slv 2 0 0 0, Iv 60]) rfl (by kernel_rfl) rfl rfl (by decide) (by simp [Zbe, Zao]) ⟨⟨rfl, rfl, rfl, by first | omega | exact Nat.le_refl _ | exact Nat.zero_le _ | (dsimp only; omega), by first | omega | exact Nat.le_refl _ | exact Nat.zero_le _ | (dsimp only; omega)⟩, rfl, trivial⟩
  refine Zl (vx := Iv ((Zbj x.entry).2)) (vy := Iv 0) rfl rfl (.bool false) rfl rfl (Zfw (by omega)) ?_
  refine Zd (.bool false) (Zh (b := 0) (o := 0) (n := 0) (o' := 0) (Zn (p := pt 0 0) (v := Iv x.epoch) ?_))
  by_cases h2 : 1 ≤ x.epoch
  by_cases h3 : x.epoch ≤ 900000000
  refine Zs ((Zau (G := G) x.epoch 1 900000000).res (congrArg Value.bool (Zbq (by omega) (by omega)))) (vals := [Iv x.epoch, Iv 1, Iv 900000000]) (res' := .bool true) rfl rfl rfl rfl rfl rfl ?_
  refine Zfb (vx := .bool true) rfl rfl (.bool false) rfl Zcq ?_
  refine Zk (.bool false) (Za (Zc (Zu rfl (Zz (Zc (Zf (Zg (Za9 (b := rfB (.slice none 0 0)) (nid := 2) (H' := [bxB 110 (Zbi x), Zao ((Zbj x.entry).1), rfB (.slice none 0 0), hole, hole]) (Za (Zc (Zf ?_)))))))))))
  refine Zca (Za7.nilCell (k := 2) (j := 0) (b := 3) true 2 rfl (by decide) rfl (by show 0 < 1; decide) rfl rfl) ?_
  refine Zg (Zh (b := 0) (o := 0) (n := 0) (o' := 0) (Zn (p := pt 0 0) (v := Iv x.epoch) ?_))
  refine Zcp (e := [some (2, 0), some (3, 0)]) (nid := 0) (Zlb (G := G) [] 0 1 x.epoch rfl (by omega) (by omega) (by omega)) (vals := [pt 2 0, Iv 1, Iv x.epoch]) (v := .tuple #[]) (H' := [bxB 110 (Zbi x), Zao ((Zbj x.entry).1), rfB (slv 3 0 1 1), rwB cFd ([] ++ [(⟨1, (Zp x.epoch).1⟩ : Field)]), hole]) rfl rfl rfl rfl rfl rfl ⟨⟨⟨rfl, rfl⟩, rfl, rfl, trivial⟩, ⟨(Zad rfl rfl rfl rfl), (Zad rfl rfl rfl rfl), trivial⟩, rfl, rfl, rfl, Nat.le_refl _⟩ (by kernel_rfl) rfl (by kernel_rfl) ?_
  refine Za (Zc (Zf (Zg (Zd (slv 1 0 ((Zbj x.entry).1.length) ((Zbj x.entry).1.length)) ?_))))
  refine Zjm (p := slv 1 0 ((Zbj x.entry).1.length) ((Zbj x.entry).1.length)) (v := .string (Zo ((Zbj x.entry).1))) rfl rfl rfl (Zie rfl rfl rfl rfl rfl (by omega)) ?_
  refine Zcp (e := [some (2, 0), some (3, 0)]) (nid := 0) (Zjv (G := G) ([] ++ [(⟨1, (Zp x.epoch).1⟩ : Field)]) 1 2 (Zo ((Zbj x.entry).1)) rfl (by omega)) (vals := [pt 2 0, Iv 2, .string (Zo ((Zbj x.entry).1))]) (v := .tuple #[]) (H' := [bxB 110 (Zbi x), Zao ((Zbj x.entry).1), rfB (slv 3 0 2 2), rwB cFd (([] ++ [(⟨1, (Zp x.epoch).1⟩ : Field)]) ++ [(⟨2, (Zo ((Zbj x.entry).1))⟩ : Field)]), hole]) rfl rfl rfl rfl rfl rfl ⟨⟨⟨rfl, rfl⟩, rfl, rfl, trivial⟩, ⟨(Zad rfl rfl rfl rfl), (Zad rfl rfl rfl rfl), trivial⟩, rfl, rfl, rfl, Nat.le_refl _⟩ (by kernel_rfl) rfl (by kernel_rfl) ?_
  refine Za (Zc (Zf (Zg ?_)))
  refine Zal (p := pt 2 0) (v := slv 3 0 2 2) rfl rfl rfl rfl ?_
  refine Z5 (e := [some (3, 0)]) (nid := 4) (Zgc (G := G) (([] ++ [(⟨1, (Zp x.epoch).1⟩ : Field)]) ++ [(⟨2, (Zo ((Zbj x.entry).1))⟩ : Field)]) 2 2 rfl (by omega) (by omega)) (vals := [slv 3 0 2 2]) (v := .tuple #[slv 4 0 ((Z3 (([] ++ [(⟨1, (Zp x.epoch).1⟩ : Field)]) ++ [(⟨2, (Zo ((Zbj x.entry).1))⟩ : Field)]) 0 []).1.length) ((Z3 (([] ++ [(⟨1, (Zp x.epoch).1⟩ : Field)]) ++ [(⟨2, (Zo ((Zbj x.entry).1))⟩ : Field)]) 0 []).1.length), Iv ((Z3 (([] ++ [(⟨1, (Zp x.epoch).1⟩ : Field)]) ++ [(⟨2, (Zo ((Zbj x.entry).1))⟩ : Field)]) 0 []).2)]) (H' := [bxB 110 (Zbi x), Zao ((Zbj x.entry).1), rfB (slv 3 0 2 2), rwB cFd (([] ++ [(⟨1, (Zp x.epoch).1⟩ : Field)]) ++ [(⟨2, (Zo ((Zbj x.entry).1))⟩ : Field)]), Zao ((Z3 (([] ++ [(⟨1, (Zp x.epoch).1⟩ : Field)]) ++ [(⟨2, (Zo ((Zbj x.entry).1))⟩ : Field)]) 0 []).1)]) rfl rfl rfl rfl rfl rfl rfl ⟨⟨⟨rfl, rfl, rfl, by first | omega | exact Nat.le_refl _, by first | omega | exact Nat.le_refl _⟩, trivial⟩, ⟨(Zb8 rfl), trivial⟩, rfl, rfl, rfl⟩ (by kernel_rfl) (by kernel_rfl) ?_
  refine Z1 (vs := #[slv 4 0 ((Z3 (([] ++ [(⟨1, (Zp x.epoch).1⟩ : Field)]) ++ [(⟨2, (Zo ((Zbj x.entry).1))⟩ : Field)]) 0 []).1.length) ((Z3 (([] ++ [(⟨1, (Zp x.epoch).1⟩ : Field)]) ++ [(⟨2, (Zo ((Zbj x.entry).1))⟩ : Field)]) 0 []).1.length), Iv ((Z3 (([] ++ [(⟨1, (Zp x.epoch).1⟩ : Field)]) ++ [(⟨2, (Zo ((Zbj x.entry).1))⟩ : Field)]) 0 []).2)]) (v := slv 4 0 ((Z3 (([] ++ [(⟨1, (Zp x.epoch).1⟩ : Field)]) ++ [(⟨2, (Zo ((Zbj x.entry).1))⟩ : Field)]) 0 []).1.length) ((Z3 (([] ++ [(⟨1, (Zp x.epoch).1⟩ : Field)]) ++ [(⟨2, (Zo ((Zbj x.entry).1))⟩ : Field)]) 0 []).1.length)) (Z1 (vs := #[slv 4 0 ((Z3 (([] ++ [(⟨1, (Zp x.epoch).1⟩ : Field)]) ++ [(⟨2, (Zo ((Zbj x.entry).1))⟩ : Field)]) 0 []).1.length) ((Z3 (([] ++ [(⟨1, (Zp x.epoch).1⟩ : Field)]) ++ [(⟨2, (Zo ((Zbj x.entry).1))⟩ : Field)]) 0 []).1.length), Iv ((Z3 (([] ++ [(⟨1, (Zp x.epoch).1⟩ : Field)]) ++ [(⟨2, (Zo ((Zbj x.entry).1))⟩ : Field)]) 0 []).2)]) (v := Iv ((Z3 (([] ++ [(⟨1, (Zp x.epoch).1⟩ : Field)]) ++ [(⟨2, (Zo ((Zbj x.entry).1))⟩ : Field)]) 0 []).2)) (Zb (slv 4 0 ((Z3 (([] ++ [(⟨1, (Zp x.epoch).1⟩ : Field)]) ++ [(⟨2, (Zo ((Zbj x.entry).1))⟩ : Field)]) 0 []).1.length) ((Z3 (([] ++ [(⟨1, (Zp x.epoch).1⟩ : Field)]) ++ [(⟨2, (Zo ((Zbj x.entry).1))⟩ : Field)]) 0 []).1.length)) (Zb (Iv ((Z3 (([] ++ [(⟨1, (Zp x.epoch).1⟩ : Field)]) ++ [(⟨2, (Zo ((Zbj x.entry).1))⟩ : Field)]) 0 []).2)) (Za (Zc (Zr (Zt ?_)))))))
  have ee : (([] ++ [(⟨1, (Zp x.epoch).1⟩ : Field)]) ++ [(⟨2, (Zo ((Zbj x.entry).1))⟩ : Field)]) = Zoh x := rfl
  have ez := Zzh x
  rw [← ee] at ez
  rw [show Zch x = ((Z3 (([] ++ [(⟨1, (Zp x.epoch).1⟩ : Field)]) ++ [(⟨2, (Zo ((Zbj x.entry).1))⟩ : Field)]) 0 []).1, (Z3 (([] ++ [(⟨1, (Zp x.epoch).1⟩ : Field)]) ++ [(⟨2, (Zo ((Zbj x.entry).1))⟩ : Field)]) 0 []).2) from by rw [ez, ee]; exact if_pos ⟨by omega, by omega, Z4r (by omega)⟩]
  exact Zbc [4] (v := .tuple #[slv 4 0 ((Z3 (([] ++ [(⟨1, (Zp x.epoch).1⟩ : Field)]) ++ [(⟨2, (Zo ((Zbj x.entry).1))⟩ : Field)]) 0 []).1.length) ((Z3 (([] ++ [(⟨1, (Zp x.epoch).1⟩ : Field)]) ++ [(⟨2, (Zo ((Zbj x.entry).1))⟩ : Field)]) 0 []).1.length), Iv ((Z3 (([] ++ [(⟨1, (Zp x.epoch).1⟩ : Field)]) ++ [(⟨2, (Zo ((Zbj x.entry).1))⟩ : Field)]) 0 []).2)]) rfl (by kernel_rfl) rfl rfl (by decide) (by simp [Zbe, Zao]) ⟨⟨rfl, rfl, rfl, by first | omega | exact Nat.le_refl _ | exact Nat.zero_le _ | (dsimp only; omega), by first | omega | exact Nat.le_refl _ | exact Nat.zero_le _ | (dsimp only; omega)⟩, rfl, trivial⟩
  refine Zs ((Zau (G := G) x.epoch 1 900000000).res (congrArg Value.bool (Zac (by omega)))) (vals := [Iv x.epoch, Iv 1, Iv 900000000]) (res' := .bool false) rfl rfl rfl rfl rfl rfl ?_
  refine Zfb (vx := .bool false) rfl rfl (.bool true) rfl Zcq ?_
  refine Zk (.bool true) (Za (Zc (Zy rfl (Zf (Zg (Zb (.slice none 0 0) (Zb (Iv 60) (Za (Zc ?_)))))))))
  refine Zca (Za7.nilTmp (i := 2) (b := 2) true 1 rfl (by decide) rfl) ?_
  refine Zr (Z2 (Zt ?_))
  rw [show Zch x = ([], 60) from if_neg (fun q => by have q1 := q.1; have q2 := q.2.1; first | omega | (have := Zuv q.2.2; omega))]
  exact Zbc [2] (v := .tuple #[slv 2 0 0 0, Iv 60]) rfl (by kernel_rfl) rfl rfl (by decide) (by simp [Zbe, Zao]) ⟨⟨rfl, rfl, rfl, by first | omega | exact Nat.le_refl _ | exact Nat.zero_le _ | (dsimp only; omega), by first | omega | exact Nat.le_refl _ | exact Nat.zero_le _ | (dsimp only; omega)⟩, rfl, trivial⟩
  refine Zs ((Zau (G := G) x.epoch 1 900000000).res (congrArg Value.bool (Zac (by omega)))) (vals := [Iv x.epoch, Iv 1, Iv 900000000]) (res' := .bool false) rfl rfl rfl rfl rfl rfl ?_
  refine Zfb (vx := .bool false) rfl rfl (.bool true) rfl Zcq ?_
  refine Zk (.bool true) (Za (Zc (Zy rfl (Zf (Zg (Zb (.slice none 0 0) (Zb (Iv 60) (Za (Zc ?_)))))))))
  refine Zca (Za7.nilTmp (i := 2) (b := 2) true 1 rfl (by decide) rfl) ?_
  refine Zr (Z2 (Zt ?_))
  rw [show Zch x = ([], 60) from if_neg (fun q => by have q1 := q.1; have q2 := q.2.1; first | omega | (have := Zuv q.2.2; omega))]
  exact Zbc [2] (v := .tuple #[slv 2 0 0 0, Iv 60]) rfl (by kernel_rfl) rfl rfl (by decide) (by simp [Zbe, Zao]) ⟨⟨rfl, rfl, rfl, by first | omega | exact Nat.le_refl _ | exact Nat.zero_le _ | (dsimp only; omega), by first | omega | exact Nat.le_refl _ | exact Nat.zero_le _ | (dsimp only; omega)⟩, rfl, trivial⟩
theorem Zu0 (kk : Nat → BitVec 32) (hG : G 0 = some (Zah w32 64 kk)) (s : ByteArray) (hs : s.size ≤ 1000000) : Z6 Tryd.prog G 80 [.string s] [] (dgV (lfT kk s)) [] := by
  refine Zbh (fn := Tryd.f80) (nt := 6) rfl rfl rfl rfl ?_
  refine Zaf 2 (H' := [hole, hole]) rfl ?_
  refine Zf (Zg (Za9 (b := dgB dz) (nid := 0) (H' := [dgB dz, hole]) (Za (Zc (Zf (Zg (Zd (.string s) ?_)))))))
  refine Zep (vs := [(0, .string Zi3), (1, .string s)]) (v := slv 1 0 2 2) (blk := txB [Zi3, s]) (nid := 1) (H' := [dgB dz, txB [Zi3, s]]) rfl rfl rfl (by kernel_rfl) (by kernel_rfl) ?_
  refine Z5 (e := [some (1, 0)]) (nid := 0) (Zyf (G := G) kk hG [Zi3, s] 2 (by simp) (by intro x hx; simp at hx; rcases hx with rfl | rfl <;> first | omega | (show 1 ≤ _; omega))) (vals := [slv 1 0 2 2]) (v := dgV (Zct kk (Zd2 [Zi3, s]))) (H' := [dgB dz, txB [Zi3, s]]) rfl rfl rfl rfl rfl rfl rfl ⟨⟨⟨rfl, rfl, rfl, by first | omega | exact Nat.le_refl _, by first | omega | exact Nat.le_refl _⟩, trivial⟩, ⟨(Z4a rfl), trivial⟩, rfl, rfl, rfl⟩ (by kernel_rfl) (by kernel_rfl) ?_
  refine Zab (p := pt 0 0) (v := dgV (Zct kk (Zd2 [Zi3, s]))) (b := 0) (blk := dgB (Zct kk (Zd2 [Zi3, s]))) (H' := [dgB (Zct kk (Zd2 [Zi3, s])), txB [Zi3, s]]) (Za (Zc (Zr (Zt ?_))))
  exact Zm (v := dgV (Zct kk (Zd2 [Zi3, s]))) (by kernel_rfl) rfl rfl (by kernel_rfl) (Ze7 (Ze1 fun _ => rfl) rfl)
theorem Z1c (kk : Nat → BitVec 32) (hG : G 0 = some (Zah w32 64 kk)) (x : Item) : Z6 Tryd.prog G 73 [Zbd x] [] (.tuple #[dgV (Zbp kk x).1, Iv (Zbp kk x).2]) [] := by
 refine Zbh (fn := Tryd.f73) (nt := 18) rfl rfl rfl rfl ?_
 refine Zaf 3 (H' := [hole, hole, hole]) rfl ?_
 refine Zf (Zg (Zb7 (v := Zbd x) (b := bxB 110 (Zbi x)) (nid := 0) (H' := [bxB 110 (Zbi x), hole, hole]) (Za9 (b := dgB dz) (nid := 1) (H' := [bxB 110 (Zbi x), dgB dz, hole]) (Zb (Iv 0) (Za (Zc (Zf (Zg (Zn (p := pt 0 0) (v := Zbd x) ?_)))))))))
 refine Z5 (e := []) (nid := 2) (Zt3 (G := G) x) (vals := [Zbd x]) (v := .tuple #[slv 2 0 ((Zch x).1.length) ((Zch x).1.length), Iv ((Zch x).2)]) (H' := [bxB 110 (Zbi x), dgB dz, Zao ((Zch x).1)]) rfl rfl rfl rfl rfl rfl rfl ⟨⟨rfl, trivial⟩, trivial, rfl, rfl, rfl⟩ (by kernel_rfl) (by kernel_rfl) ?_
 refine Zd (.tuple #[slv 2 0 ((Zch x).1.length) ((Zch x).1.length), Iv ((Zch x).2)]) (Z1 (vs := #[slv 2 0 ((Zch x).1.length) ((Zch x).1.length), Iv ((Zch x).2)]) (v := slv 2 0 ((Zch x).1.length) ((Zch x).1.length)) (Z1 (vs := #[slv 2 0 ((Zch x).1.length) ((Zch x).1.length), Iv ((Zch x).2)]) (v := Iv ((Zch x).2)) (Zb (slv 2 0 ((Zch x).1.length) ((Zch x).1.length)) (Zb (Iv ((Zch x).2)) (Za (Zc (Zf (Zf (Zg (Zd (Iv ((Zch x).2)) ?_))))))))))
 by_cases h1 : ((Zch x).2) ≠ 0
 refine Zl (vx := Iv ((Zch x).2)) (vy := Iv 0) rfl rfl (.bool true) rfl rfl (Zgf (by omega)) ?_
 refine Za (Zc (Zy rfl (Zf (Zg ?_))))
 refine Zdb (vs := []) (v := dgV dz) rfl rfl rfl (by kernel_rfl) ?_
 refine Zd (Iv ((Zch x).2)) (Zab (p := pt 1 0) (v := dgV dz) (b := 1) (blk := dgB dz) (H' := [bxB 110 (Zbi x), dgB dz, Zao ((Zch x).1)]) (Zb (Iv ((Zch x).2)) (Za (Zc (Zr (Z2 (Zt ?_)))))))
 rw [show Zbp kk x = (dz, (Zch x).2) from by rw [Z4t (by omega)]; exact if_neg (fun q => by have := Z0g q; omega)]
 exact Zm (v := .tuple #[dgV dz, Iv ((Zch x).2)]) (by kernel_rfl) rfl rfl (by kernel_rfl) ⟨(Ze7 (Ze1 fun _ => rfl) rfl), rfl, trivial⟩
 refine Zl (vx := Iv ((Zch x).2)) (vy := Iv 0) rfl rfl (.bool false) rfl rfl (Zfw (by omega)) ?_
 refine Za (Zc (Zu rfl (Zz (Zc (Zf (Zg (Zd (slv 2 0 ((Zch x).1.length) ((Zch x).1.length)) ?_)))))))
 refine Zjm (p := slv 2 0 ((Zch x).1.length) ((Zch x).1.length)) (v := .string (Zo ((Zch x).1))) rfl rfl rfl (Zie rfl rfl rfl rfl rfl (by omega)) ?_
 refine Zs (Zu0 (G := G) kk hG (Zo ((Zch x).1)) (by rw [Zcc]; have := Z0h x; omega)) (vals := [.string (Zo ((Zch x).1))]) (res' := dgV (lfT kk (Zo ((Zch x).1)))) rfl rfl rfl rfl rfl (by kernel_rfl) ?_
 refine Zab (p := pt 1 0) (v := dgV (lfT kk (Zo ((Zch x).1)))) (b := 1) (blk := dgB (lfT kk (Zo ((Zch x).1)))) (H' := [bxB 110 (Zbi x), dgB (lfT kk (Zo ((Zch x).1))), Zao ((Zch x).1)]) (Zb (Iv 0) (Za (Zc (Zr (Zt ?_)))))
 rw [show Zbp kk x = (lfT kk (Zo (Zch x).1), 0) from if_pos (Z4s (by omega))]
 exact Zm (v := .tuple #[dgV (lfT kk (Zo ((Zch x).1))), Iv 0]) (by kernel_rfl) rfl rfl (by kernel_rfl) ⟨(Ze7 (Ze1 fun _ => rfl) rfl), rfl, trivial⟩
end Go.Flat
