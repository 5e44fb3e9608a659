/- Walks. -/
import Derived.Test.YtoheeojjdpdljaaDoorE2
import Derived.Test.YtoheeojjdpdljaaDoorH9
set_option linter.unusedVariables false
set_option maxRecDepth 20000
set_option linter.unusedSimpArgs false
namespace Go.Flat
open Go.Proofs
variable {G : Glob}
def Z3u : Int → List Item → Bool
  | _, [] => true
  | ep, x :: l => decide (Zd9 x) && decide (ep ≤ x.epoch) && Z3u x.epoch l
def Z1g (l : List Item) : Prop := l.length ≤ 2000 ∧ Z3u 0 l = true
instance (l : List Item) : Decidable (Z1g l) := inferInstanceAs (Decidable (_ ∧ _))
def Z7j (l : List Item) : Int := if Z1g l then 0 else 100
def Z7a (l : List Item) (i : Nat) : Int := if i = 0 then 0 else (l.getD (i - 1) default).epoch
def Z64 (x : Item) : Bool := decide (1000 < x.entry.text.size)
def Z7e (l : List Item) : Bool := decide (60 < l.length) || l.any Z64
def Z68 (l m : List Item) : Bool := decide (l.length = m.length) && (List.range l.length).all fun i => Zj6 (l.getD i default) (m.getD i default)
end Go.Flat
namespace Go.Flat
open Go.Proofs
variable {G : Glob}
def Ztz : Cod Int := ⟨fun z => [.int .i64 z], 1, fun _ => rfl, by decide⟩
def Zgr (c : Claim) : List Field := [⟨1, (Zp c.region).1⟩, ⟨2, (Zp c.epoch).1⟩, ⟨3, (Zp c.node).1⟩, ⟨4, (Zp c.size).1⟩, ⟨5, Zl (dgL c.root)⟩]
theorem Zuy (c : Claim) (i : Nat) (hi : i < 4) : (Zgr c).take i ++ [⟨((i : Nat) : Int) + 1, (Zp ([c.region, c.epoch, c.node, c.size].getD i default)).1⟩] = (Zgr c).take (i + 1) := by
 rcases i with _ | _ | _ | _ | i
 ·rfl
 ·rfl
 ·rfl
 ·rfl
 ·omega
theorem Zxw {c : Claim} (hc : (1 ≤ c.region ∧ c.region ≤ 5) ∧ (1 ≤ c.epoch ∧ c.epoch ≤ 900000000) ∧ (1 ≤ c.node ∧ c.node ≤ 3) ∧ (0 ≤ c.size ∧ c.size ≤ 100000)) (i : Nat) (hi : i < 4) : -9223372036854775808 ≤ [c.region, c.epoch, c.node, c.size].getD i default ∧ [c.region, c.epoch, c.node, c.size].getD i default ≤ 9223372036854775807 := by
 rcases i with _ | _ | _ | _ | i
 ·show _ ≤ c.region ∧ c.region ≤ _; omega
 ·show _ ≤ c.epoch ∧ c.epoch ≤ _; omega
 ·show _ ≤ c.node ∧ c.node ≤ _; omega
 ·show _ ≤ c.size ∧ c.size ≤ _; omega
 ·omega
theorem Zx5 (c : Claim) : (Z6 (Zgr c) 0 []).2 = 0 := by
 have h1 := Za6 c.region
 have h2 := Za6 c.epoch
 have h3 := Za6 c.node
 have h4 := Za6 c.size
 have h5 : (Zl (dgL c.root)).size = 32 := by rw [Zbc, Ze2]
 have h := Zkn [(Zp c.region).1, (Zp c.epoch).1, (Zp c.node).1, (Zp c.size).1, Zl (dgL c.root)] 0 [] (by simp) (by
  intro x hx
  simp only [List.mem_cons, List.not_mem_nil, or_false] at hx
  rcases hx with rfl | rfl | rfl | rfl | rfl <;> omega)
 show (Z6 (Zd0 0 [(Zp c.region).1, (Zp c.epoch).1, (Zp c.node).1, (Zp c.size).1, Zl (dgL c.root)]) ((0 : Nat) : Int) []).2 = 0
 rw [h]
def Z8 (c : Claim) : Bs × Int := if Za8 c then ((Z6 (Zgr c) 0 []).1, 0) else ([], 60)
theorem Zi3 (c : Claim) : (Z8 c).1.length ≤ 100 := by
 unfold Z8
 split
 ·have := Zh2 (Zgr c) 0 []
  have h1 := Za6 c.region
  have h2 := Za6 c.epoch
  have h3 := Za6 c.node
  have h4 := Za6 c.size
  simp only [Zgr, Znm, Zbc, Ze2, List.length_nil] at this
  show (Z6 (Zgr c) 0 []).1.length ≤ 100
  simp only [Zgr]; omega
 ·exact Nat.zero_le _
theorem Zkh (ls : List Field) (n : Nat) (tag : Int) (x : ByteArray) (hn : ls.length = n) (hb : n ≤ 1000) : Zao Tryd.prog G 28 [pt 0 0, Iv tag, .string x] [rfB (slv 1 0 n n), rwB cFd ls] (.tuple #[]) [rfB (slv 1 0 (n + 1) (n + 1)), rwB cFd (ls ++ [⟨tag, x⟩])] := by
  refine Zbv (fn := Tryd.f28) (nt := 16) rfl rfl rfl rfl ?_
  refine Zat 1 (H' := [rfB (slv 1 0 n n), rwB cFd ls, hole]) rfl ?_
  refine Zi (Zd rfl rfl (pt 0 0) rfl (Zd rfl rfl (pt 0 0) rfl ?_))
  refine Zag (p := pt 0 0) (v := pt 0 0) rfl rfl rfl rfl ?_
  refine Zo (p := pt 0 0) (v := slv 1 0 n n) rfl rfl rfl rfl ?_
  refine Zd rfl rfl (Iv tag) rfl (Zd rfl rfl (.string x) rfl ?_)
  refine Zaw (vs := [(0, Iv tag), (1, .string x)]) (v := fdV (⟨tag, x⟩ : Field)) rfl rfl rfl (by kernel_rfl) ?_
  refine Zd5 (vs := [(0, fdV (⟨tag, x⟩ : Field))]) (v := slv 2 0 1 1) (blk := rwB cFd [(⟨tag, x⟩ : Field)]) (nid := 2) (H' := [rfB (slv 1 0 n n), rwB cFd ls, rwB cFd [(⟨tag, x⟩ : Field)]]) rfl rfl rfl (by kernel_rfl) (by kernel_rfl) ?_
  have hl2 : (ls ++ [(⟨tag, x⟩ : Field)]).length = n + 1 := by have := hn; have := (rfl : _ = 1); first | (rw [List.length_append]; omega) | (simp; omega) | simp
  refine Zbz (p := slv 1 0 n n) (q := slv 2 0 1 1) (v := slv 1 0 (n + 1) (n + 1)) (b := 1) (blk := rwB cFd (ls ++ [(⟨tag, x⟩ : Field)])) (H' := [rfB (dead), rwB cFd (ls ++ [(⟨tag, x⟩ : Field)]), rwB cFd [(⟨tag, x⟩ : Field)]]) rfl rfl rfl (.inl ⟨_, rfl⟩) rfl rfl (Zhh cFd (by_ := 24) (k := 1) (n' := n + 1) (ms := [(⟨tag, x⟩ : Field)]) (fun _ => rfl) rfl rfl (by kernel_rfl) rfl rfl (by have := hn; omega) (by omega) (by decide) (by omega)) rfl (by kernel_rfl) ?_
  refine Zag (p := pt 0 0) (v := pt 0 0) rfl rfl rfl rfl ?_
  refine Zr (p := pt 0 0) (v := slv 1 0 (n + 1) (n + 1)) (b := 0) (blk := rfB (slv 1 0 (n + 1) (n + 1))) (H' := [rfB (slv 1 0 (n + 1) (n + 1)), rwB cFd (ls ++ [(⟨tag, x⟩ : Field)]), rwB cFd [(⟨tag, x⟩ : Field)]]) rfl rfl rfl (by kernel_rfl) (by kernel_rfl) ?_
  refine Za (Zdz ?_)
  exact Zm (v := .tuple #[]) rfl rfl rfl (by simp [Zac, rfB, rwB, cFd, Zej, Zcp]) trivial
theorem Zms (ls : List Field) (n : Nat) (tag x : Int) (hn : ls.length = n) (hb : n ≤ 1000) (hl : -9223372036854775808 ≤ x) (hh : x ≤ 9223372036854775807) : Zao Tryd.prog G 27 [pt 0 0, Iv tag, Iv x] [rfB (slv 1 0 n n), rwB cFd ls] (.tuple #[]) [rfB (slv 1 0 (n + 1) (n + 1)), rwB cFd (ls ++ [⟨tag, (Zp x).1⟩])] := by
 refine Zbv (fn := Tryd.f27) (nt := 17) rfl rfl rfl rfl ?_
 refine Zg (Zi (Zd rfl rfl (Iv x) rfl ?_))
 refine Zs (Zq8 (G := G) x (by omega) (by omega)) (vals := [Iv x]) (res' := .tuple #[.string ((Zp x).1), Iv ((Zp x).2)]) rfl rfl rfl rfl rfl (by kernel_rfl) ?_
 refine Zd rfl rfl (.tuple #[.string ((Zp x).1), Iv ((Zp x).2)]) rfl (Zt (vs := #[.string ((Zp x).1), Iv ((Zp x).2)]) (v := .string ((Zp x).1)) rfl rfl rfl rfl (Zt (vs := #[.string ((Zp x).1), Iv ((Zp x).2)]) (v := Iv ((Zp x).2)) rfl rfl rfl rfl (Zb rfl rfl (.string ((Zp x).1)) rfl (Zb rfl rfl (Iv ((Zp x).2)) rfl (Za (Zc (Zi (Zd rfl rfl (pt 0 0) rfl (Zd rfl rfl (Iv tag) rfl (Zd rfl rfl (.string ((Zp x).1)) rfl ?_))))))))))
 refine Zdg (e := [some (0, 0), some (1, 0)]) (nid := 0) (Zkh (G := G) ls n tag ((Zp x).1) hn (by omega)) (vals := [pt 0 0, Iv tag, .string ((Zp x).1)]) (v := .tuple #[]) (H' := [rfB (slv 1 0 (n + 1) (n + 1)), rwB cFd (ls ++ [(⟨tag, (Zp x).1⟩ : Field)])]) rfl rfl rfl rfl rfl rfl ⟨⟨⟨rfl, rfl⟩, rfl, rfl, trivial⟩, ⟨(Zay rfl rfl rfl rfl), (Zay rfl rfl rfl rfl), trivial⟩, rfl, rfl, rfl, Nat.le_refl _⟩ (by kernel_rfl) rfl (by kernel_rfl) ?_
 refine Za (Zdz ?_)
 exact Zm (v := .tuple #[]) rfl rfl rfl (by simp [Zac, rfB, rwB, cFd, Zej, Zcp]) trivial
theorem Zg4 (fs : List Field) (n c : Nat) (hn : fs.length = n) (hc : n ≤ c) (hb : n ≤ 1000) : Zao Tryd.prog G 30 [slv 0 0 n c] [rwR cFd fs] (.tuple #[slv 1 0 (Z6 fs 0 []).1.length (Z6 fs 0 []).1.length, Iv (Z6 fs 0 []).2]) [rwR cFd fs, Zy (Z6 fs 0 []).1] := by
  refine Zbv (fn := Tryd.f30) (nt := 8) rfl rfl rfl rfl ?_
  refine Zat 1 (H' := [rwR cFd fs, hole]) rfl ?_
  refine Zg (Zi (Zb rfl rfl (.slice none 0 0) rfl (Zb rfl rfl (Iv 0) rfl (Za (Zc (Zg (Zi (Zd rfl rfl (slv 0 0 n c) rfl ?_))))))))
  refine Zad (e := [some (0, 0)]) (nid := 1) (Z1b (G := G) fs n c hn (by omega) (by omega)) (vals := [slv 0 0 n c]) (v := .tuple #[slv 1 0 ((Z6 fs 0 []).1.length) ((Z6 fs 0 []).1.length), Iv ((Z6 fs 0 []).2)]) (H' := [rwR cFd fs, Zy ((Z6 fs 0 []).1)]) rfl rfl rfl rfl rfl rfl rfl ⟨⟨⟨rfl, rfl, rfl, by first | omega | exact Nat.le_refl _, by first | omega | exact Nat.le_refl _⟩, trivial⟩, ⟨(Z2f rfl), trivial⟩, rfl, rfl, rfl⟩ (by kernel_rfl) (by kernel_rfl) ?_
  refine Zt (vs := #[slv 1 0 ((Z6 fs 0 []).1.length) ((Z6 fs 0 []).1.length), Iv ((Z6 fs 0 []).2)]) (v := slv 1 0 ((Z6 fs 0 []).1.length) ((Z6 fs 0 []).1.length)) rfl rfl rfl rfl (Zt (vs := #[slv 1 0 ((Z6 fs 0 []).1.length) ((Z6 fs 0 []).1.length), Iv ((Z6 fs 0 []).2)]) (v := Iv ((Z6 fs 0 []).2)) rfl rfl rfl rfl (Zb rfl rfl (slv 1 0 ((Z6 fs 0 []).1.length) ((Z6 fs 0 []).1.length)) rfl (Zb rfl rfl (Iv ((Z6 fs 0 []).2)) rfl (Za (Zc (Zv (Zu ?_)))))))
  exact Za5 [0, 1] (v := .tuple #[slv 1 0 ((Z6 fs 0 []).1.length) ((Z6 fs 0 []).1.length), Iv ((Z6 fs 0 []).2)]) rfl (by kernel_rfl) rfl rfl (by decide) (by simp [Zac, rwR, Zy, cFd]) ⟨⟨rfl, rfl, rfl, by first | omega | exact Nat.le_refl _ | exact Nat.zero_le _ | (dsimp only; omega), by first | omega | exact Nat.le_refl _ | exact Nat.zero_le _ | (dsimp only; omega)⟩, rfl, trivial⟩
theorem Zh9 (c : Claim) : Zao Tryd.prog G 25 [Zz c] [] (.tuple #[slv 0 0 (Z8 c).1.length (Z8 c).1.length, Iv (Z8 c).2]) [Zy (Z8 c).1] := by
  refine Zbv (fn := Tryd.f25) (nt := 41) rfl rfl rfl rfl ?_
  refine Zat 4 (H' := [hole, hole, hole, hole]) rfl ?_
  refine Zg (Zi ?_)
  refine Zel (v := Zz c) (b := bxB 36 (Zw c)) (nid := 0) (H' := [bxB 36 (Zw c), hole, hole, hole]) rfl rfl rfl (by kernel_rfl) (by kernel_rfl) ?_
  refine Zb rfl rfl (.slice none 0 0) rfl (Zb rfl rfl (Iv 0) rfl (Za (Zc (Zg (Zg (Zi ?_))))))
  refine Zo (p := pt 0 0) (v := Zz c) rfl rfl rfl (by kernel_rfl) ?_
  refine Zs (Zgw (G := G) c) (vals := [Zz c]) (res' := Iv (Ze4 c)) rfl rfl rfl rfl rfl rfl ?_
  refine Zb rfl rfl (Iv (Ze4 c)) rfl (Za (Zc (Zg (Zi (Zd rfl rfl (Iv (Ze4 c)) rfl ?_)))))
  by_cases h1 : (Ze4 c) ≠ 0
  refine Zn (vx := Iv (Ze4 c)) (vy := Iv 0) rfl rfl (.bool true) rfl rfl (Zeg (by omega)) ?_
  refine Za (Zc (Z0 rfl (Zg (Zi (Zd rfl rfl (Iv (Ze4 c)) rfl (Zb rfl rfl (.slice none 0 0) rfl (Zb rfl rfl (Iv (Ze4 c)) rfl (Za (Zc ?_)))))))))
  refine Zcw (Zcq.nilTmp (i := 2) (b := 1) true 1 rfl (by decide) rfl) ?_
  refine Zv (Z5 (Zu ?_))
  rw [show Z8 c = ([], (Ze4 c)) from if_neg (fun q => Ztq (c := c) (by omega) q) |>.trans (by first | rfl | (unfold Ze4; rw [if_neg (Ztq (c := c) (by omega))]))]
  exact Za5 [1] (v := .tuple #[slv 1 0 0 0, Iv (Ze4 c)]) rfl (by kernel_rfl) rfl rfl (by decide) (by simp [Zac, Zy]) ⟨⟨rfl, rfl, rfl, by first | omega | exact Nat.le_refl _ | exact Nat.zero_le _ | (dsimp only; omega), by first | omega | exact Nat.le_refl _ | exact Nat.zero_le _ | (dsimp only; omega)⟩, rfl, trivial⟩
  refine Zn (vx := Iv (Ze4 c)) (vy := Iv 0) rfl rfl (.bool false) rfl rfl (Zds (by omega)) ?_
  refine Za (Zc (Zx rfl (Zai (Zc (Zg (Zi ?_))))))
  refine Zae (b := rfB (.slice none 0 0)) (nid := 1) (H' := [bxB 36 (Zw c), rfB (.slice none 0 0), hole, hole]) rfl rfl (by kernel_rfl) (by kernel_rfl) ?_
  refine Za (Zc (Zg (Zg ?_)))
  have hc := Zth (c := c) (by omega)
  unfold Za8 at hc
  refine Zcw (Zcq.nilCell (k := 1) (j := 0) (b := 2) true 2 rfl (by decide) rfl (by show 0 < 1; decide) rfl rfl) ?_
  refine Zi ?_
  refine Zj (b := 0) (o := 0) (n := 0) (o' := 0) rfl rfl rfl rfl rfl ?_
  refine Zo (p := pt 0 0) (v := Iv c.region) rfl rfl rfl (by kernel_rfl) ?_
  refine Zj (b := 0) (o := 0) (n := 1) (o' := 1) rfl rfl rfl rfl rfl ?_
  refine Zo (p := pt 0 1) (v := Iv c.epoch) rfl rfl rfl (by kernel_rfl) ?_
  refine Zj (b := 0) (o := 0) (n := 2) (o' := 2) rfl rfl rfl rfl rfl ?_
  refine Zo (p := pt 0 2) (v := Iv c.node) rfl rfl rfl (by kernel_rfl) ?_
  refine Zj (b := 0) (o := 0) (n := 3) (o' := 3) rfl rfl rfl rfl rfl ?_
  refine Zo (p := pt 0 3) (v := Iv c.size) rfl rfl rfl (by kernel_rfl) ?_
  refine Zd5 (vs := [(0, Iv c.region), (1, Iv c.epoch), (2, Iv c.node), (3, Iv c.size)]) (v := slv 3 0 4 4) (blk := rwB Ztz [c.region, c.epoch, c.node, c.size]) (nid := 3) (H' := [bxB 36 (Zw c), rfB (slv 2 0 0 0), rwB cFd [], rwB Ztz [c.region, c.epoch, c.node, c.size]]) rfl rfl rfl (by kernel_rfl) (by kernel_rfl) ?_
  refine Zb7 (p := slv 3 0 4 4) (v := Iv 4) rfl rfl rfl rfl ?_
  refine Zd rfl rfl (Iv 0) rfl (Za (Zc (Zap ?_)))
  refine Zb8 (fun x : Nat × (List Field) => match x with | (i, acc) => [Zz c, pt 0 0, .slice none 0 0, Iv 0, Iv (Ze4 c), pt 1 0, dead, dead, Zz c, Iv (Ze4 c), Iv (Ze4 c), .bool false, dead, pt 0 0, Iv c.region, pt 0 1, Iv c.epoch, pt 0 2, Iv c.node, pt 0 3, Iv c.size, slv 3 0 4 4, Iv 4, Iv (i : Nat)]) (fun x : Nat × (List Field) => match x with | (i, acc) => [bxB 36 (Zw c), rfB (slv 2 0 i i), rwB cFd acc, rwB Ztz [c.region, c.epoch, c.node, c.size]]) (fun x : Nat × (List Field) => match x with | (i, acc) => acc = (Zgr c).take i ∧ i ≤ 4 ∧ acc.length = i) (fun x : Nat × (List Field) => match x with | (i, acc) => 4 - i) (0, []) ⟨rfl, by omega, rfl⟩ ?_ ?_
  · refine Zaq (n := 4) rfl ?_ (by kernel_rfl) (by kernel_rfl)
    repeat (first | exact trivial | refine ⟨.inl rfl, ?_⟩ | refine ⟨.inr ⟨rfl, rfl⟩, ?_⟩ | refine ⟨.inr ⟨congrArg (Value.int .i64) (by first | omega | (dsimp only; omega)), rfl⟩, ?_⟩)
  rintro ⟨i, acc⟩ ⟨hR, hi, ha⟩
  dsimp only at *
  refine Zat 1 (H' := [bxB 36 (Zw c), rfB (slv 2 0 i i), rwB cFd acc, rwB Ztz [c.region, c.epoch, c.node, c.size], hole]) rfl ?_
  refine Zg (Zi ?_)
  by_cases h2 : (i : Nat) < 4
  refine Zn (vx := Iv (i : Nat)) (vy := Iv 4) rfl rfl (.bool true) rfl rfl (Zdt (by omega)) ?_
  refine Za (Zc (Zg (Z0 rfl (Zai (Zc (Zg (Zap (Zg (Zi (Zd rfl rfl (Iv (i : Nat)) rfl ?_))))))))))
  refine Zbk (b := 3) (o := 0) (j := i) (m := 4) (c := 4) (sz := 1) (i := (i : Nat)) (k := .i64) rfl rfl rfl rfl rfl (by omega) (by omega) (by omega) ?_
  refine Zo (p := pt 3 i) (v := Iv (([c.region, c.epoch, c.node, c.size]).getD i default)) rfl rfl rfl (Z1i (m := 1) Ztz (l := [c.region, c.epoch, c.node, c.size]) (i := i) rfl rfl rfl rfl (by have : ([c.region, c.epoch, c.node, c.size]).length = 4 := rfl; omega) (by omega) rfl rfl) ?_
  refine Zb rfl rfl (Iv (i : Nat)) rfl (Zb rfl rfl (Iv (([c.region, c.epoch, c.node, c.size]).getD i default)) rfl (Za (Zc ?_)))
  have hx := Zxw hc i (by omega)
  refine Zi (Zd rfl rfl (Iv (i : Nat)) rfl ?_)
  refine Zn (vx := Iv (i : Nat)) (vy := Iv 1) rfl rfl (Iv ((i : Nat) + 1)) rfl rfl (Za7 (by omega) (by omega) (by omega)) ?_
  refine Zd rfl rfl (Iv (([c.region, c.epoch, c.node, c.size]).getD i default)) rfl ?_
  refine Zdg (e := [some (1, 0), some (2, 0)]) (nid := 0) (Zms (G := G) acc i ((i : Nat) + 1) (([c.region, c.epoch, c.node, c.size]).getD i default) ha (by omega) (by omega) (by omega)) (vals := [pt 1 0, Iv ((i : Nat) + 1), Iv (([c.region, c.epoch, c.node, c.size]).getD i default)]) (v := .tuple #[]) (H' := [bxB 36 (Zw c), rfB (slv 2 0 (i + 1) (i + 1)), rwB cFd (acc ++ [(⟨(i : Nat) + 1, (Zp (([c.region, c.epoch, c.node, c.size]).getD i default)).1⟩ : Field)]), rwB Ztz [c.region, c.epoch, c.node, c.size], hole]) rfl rfl rfl rfl rfl rfl ⟨⟨⟨rfl, rfl⟩, rfl, rfl, trivial⟩, ⟨(Zay rfl rfl rfl rfl), (Zay rfl rfl rfl rfl), trivial⟩, rfl, rfl, rfl, Nat.le_refl _⟩ (by kernel_rfl) rfl (by kernel_rfl) ?_
  refine Za (Z1 (Zc (Zi ?_)))
  refine Zn (vx := Iv (i : Nat)) (vy := Iv 1) rfl rfl (Iv ((i : Nat) + 1)) rfl rfl (Za7 (by omega) (by omega) (by omega)) ?_
  refine Zd rfl rfl (Iv ((i : Nat) + 1)) rfl (Za ?_)
  refine Zau ⟨((i + 1), (acc ++ [(⟨(i : Nat) + 1, (Zp (([c.region, c.epoch, c.node, c.size]).getD i default)).1⟩ : Field)])), ⟨by dsimp only; rw [hR]; exact Zuy c i (by omega), by dsimp only; omega, by rw [List.length_append, ha]; rfl⟩, by show 4 - (i + 1) < 4 - i; omega, ?_⟩
  refine Zaq (n := 4) rfl ?_ (by kernel_rfl) (by kernel_rfl)
  repeat (first | exact trivial | refine ⟨.inl rfl, ?_⟩ | refine ⟨.inr ⟨rfl, rfl⟩, ?_⟩ | refine ⟨.inr ⟨congrArg (Value.int .i64) (by first | omega | (dsimp only; omega)), rfl⟩, ?_⟩)
  refine Zn (vx := Iv (i : Nat)) (vy := Iv 4) rfl rfl (.bool false) rfl rfl (Zdh (by omega)) ?_
  refine Za (Zc (Zg (Zx rfl (Zce (Zbj (Zbo (Zbp rfl (Zc (Zg ?_)))))))))
  have hi4 : i = 4 := by omega
  refine Zi ?_
  refine Zj (b := 0) (o := 0) (n := 4) (o' := 4) rfl rfl rfl rfl rfl ?_
  refine Zec (p := pt 0 4) (vl := none) (vh := none) (v := slv 0 4 32 32) rfl rfl rfl rfl rfl rfl ?_
  refine Zc6 (p := slv 0 4 32 32) (v := .string (Zl (dgL c.root))) rfl rfl rfl (Zi2 (l := (dgL c.root)) rfl rfl rfl rfl (of_decide_eq_true (by kernel_rfl)) (by kernel_rfl)) ?_
  refine Zdg (e := [some (1, 0), some (2, 0)]) (nid := 0) (Zkh (G := G) acc i 5 (Zl (dgL c.root)) ha (by omega)) (vals := [pt 1 0, Iv 5, .string (Zl (dgL c.root))]) (v := .tuple #[]) (H' := [bxB 36 (Zw c), rfB (slv 2 0 (i + 1) (i + 1)), rwB cFd (acc ++ [(⟨5, (Zl (dgL c.root))⟩ : Field)]), rwB Ztz [c.region, c.epoch, c.node, c.size], hole]) rfl rfl rfl rfl rfl rfl ⟨⟨⟨rfl, rfl⟩, rfl, rfl, trivial⟩, ⟨(Zay rfl rfl rfl rfl), (Zay rfl rfl rfl rfl), trivial⟩, rfl, rfl, rfl, Nat.le_refl _⟩ (by kernel_rfl) rfl (by kernel_rfl) ?_
  refine Za (Zc (Zg (Zi ?_)))
  refine Zo (p := pt 1 0) (v := slv 2 0 (i + 1) (i + 1)) rfl rfl rfl rfl ?_
  refine Zad (e := [some (2, 0)]) (nid := 4) (Zg4 (G := G) (acc ++ [(⟨5, (Zl (dgL c.root))⟩ : Field)]) (i + 1) (i + 1) (by rw [List.length_append, ha]; rfl) (by omega) (by omega)) (vals := [slv 2 0 (i + 1) (i + 1)]) (v := .tuple #[slv 4 0 ((Z6 (acc ++ [(⟨5, (Zl (dgL c.root))⟩ : Field)]) 0 []).1.length) ((Z6 (acc ++ [(⟨5, (Zl (dgL c.root))⟩ : Field)]) 0 []).1.length), Iv ((Z6 (acc ++ [(⟨5, (Zl (dgL c.root))⟩ : Field)]) 0 []).2)]) (H' := [bxB 36 (Zw c), rfB (slv 2 0 (i + 1) (i + 1)), rwB cFd (acc ++ [(⟨5, (Zl (dgL c.root))⟩ : Field)]), rwB Ztz [c.region, c.epoch, c.node, c.size], Zy ((Z6 (acc ++ [(⟨5, (Zl (dgL c.root))⟩ : Field)]) 0 []).1)]) rfl rfl rfl rfl rfl rfl rfl ⟨⟨⟨rfl, rfl, rfl, by first | omega | exact Nat.le_refl _, by first | omega | exact Nat.le_refl _⟩, trivial⟩, ⟨(Zia rfl), trivial⟩, rfl, rfl, rfl⟩ (by kernel_rfl) (by kernel_rfl) ?_
  refine Zt (vs := #[slv 4 0 ((Z6 (acc ++ [(⟨5, (Zl (dgL c.root))⟩ : Field)]) 0 []).1.length) ((Z6 (acc ++ [(⟨5, (Zl (dgL c.root))⟩ : Field)]) 0 []).1.length), Iv ((Z6 (acc ++ [(⟨5, (Zl (dgL c.root))⟩ : Field)]) 0 []).2)]) (v := slv 4 0 ((Z6 (acc ++ [(⟨5, (Zl (dgL c.root))⟩ : Field)]) 0 []).1.length) ((Z6 (acc ++ [(⟨5, (Zl (dgL c.root))⟩ : Field)]) 0 []).1.length)) rfl rfl rfl rfl (Zt (vs := #[slv 4 0 ((Z6 (acc ++ [(⟨5, (Zl (dgL c.root))⟩ : Field)]) 0 []).1.length) ((Z6 (acc ++ [(⟨5, (Zl (dgL c.root))⟩ : Field)]) 0 []).1.length), Iv ((Z6 (acc ++ [(⟨5, (Zl (dgL c.root))⟩ : Field)]) 0 []).2)]) (v := Iv ((Z6 (acc ++ [(⟨5, (Zl (dgL c.root))⟩ : Field)]) 0 []).2)) rfl rfl rfl rfl (Zb rfl rfl (slv 4 0 ((Z6 (acc ++ [(⟨5, (Zl (dgL c.root))⟩ : Field)]) 0 []).1.length) ((Z6 (acc ++ [(⟨5, (Zl (dgL c.root))⟩ : Field)]) 0 []).1.length)) rfl (Zb rfl rfl (Iv ((Z6 (acc ++ [(⟨5, (Zl (dgL c.root))⟩ : Field)]) 0 []).2)) rfl (Za (Zc (Zv (Zu ?_)))))))
  have e : acc ++ [(⟨5, Zl (dgL c.root)⟩ : Field)] = Zgr c := by rw [hR, hi4]; rfl
  have ez := Zx5 c
  rw [← e] at ez
  rw [show Z8 c = ((Z6 (acc ++ [(⟨5, Zl (dgL c.root)⟩ : Field)]) 0 []).1, (Z6 (acc ++ [(⟨5, Zl (dgL c.root)⟩ : Field)]) 0 []).2) from by rw [ez, e]; exact if_pos (Zth (by omega))]
  exact Za5 [4] (v := .tuple #[slv 4 0 ((Z6 (acc ++ [(⟨5, (Zl (dgL c.root))⟩ : Field)]) 0 []).1.length) ((Z6 (acc ++ [(⟨5, (Zl (dgL c.root))⟩ : Field)]) 0 []).1.length), Iv ((Z6 (acc ++ [(⟨5, (Zl (dgL c.root))⟩ : Field)]) 0 []).2)]) rfl (by kernel_rfl) rfl rfl (by decide) (by simp [Zac, Zy]) ⟨⟨rfl, rfl, rfl, by first | omega | exact Nat.le_refl _ | exact Nat.zero_le _ | (dsimp only; omega), by first | omega | exact Nat.le_refl _ | exact Nat.zero_le _ | (dsimp only; omega)⟩, rfl, trivial⟩
end Go.Flat
namespace Go.Flat
open Go.Proofs
variable {G : Glob}
def Za2 (l : Bs) (n : Nat) : Field × Int × Int :=
  if (n : Nat) < 4 then ((⟨0, ⟨#[]⟩⟩ : Field), 0, 10) else
  if ((l.getD 0 0) == 0#8) = true then ((⟨0, ⟨#[]⟩⟩ : Field), 0, 11) else
  if 65536 < 65536 * ((((l.getD 1 0).toNat) : Nat) : Int) + 256 * ((((l.getD 2 0).toNat) : Nat) : Int) + ((((l.getD 3 0).toNat) : Nat) : Int) then ((⟨0, ⟨#[]⟩⟩ : Field), 0, 11) else
  if (n : Nat) - 4 < 65536 * ((((l.getD 1 0).toNat) : Nat) : Int) + 256 * ((((l.getD 2 0).toNat) : Nat) : Int) + ((((l.getD 3 0).toNat) : Nat) : Int) then ((⟨0, ⟨#[]⟩⟩ : Field), 0, 10) else
  ((⟨((((l.getD 0 0).toNat) : Nat) : Int), (Zl ((l.drop 4).take (65536 * ((l.getD 1 0).toNat) + 256 * ((l.getD 2 0).toNat) + ((l.getD 3 0).toNat))))⟩ : Field), 65536 * ((((l.getD 1 0).toNat) : Nat) : Int) + 256 * ((((l.getD 2 0).toNat) : Nat) : Int) + ((((l.getD 3 0).toNat) : Nat) : Int) + 4, 0)
theorem Z4t (l : Bs) (n c : Nat) (hn : l.length = n) (hc : n ≤ c) (hb : n ≤ 1099511627776) : Zao Tryd.prog G 100 [slv 0 0 n c] [rdB l] (.tuple #[fdV (Za2 l n).1, Iv (Za2 l n).2.1, Iv (Za2 l n).2.2]) [rdB l] := by
 refine Zbv (fn := Tryd.f100) (nt := 55) rfl rfl rfl rfl ?_
 refine Zat 1 (H' := [rdB l, hole]) rfl ?_
 refine Zg (Zi ?_)
 refine Zae (b := bxB 2 (fdC (⟨0, ⟨#[]⟩⟩ : Field))) (nid := 1) (H' := [rdB l, bxB 2 (fdC (⟨0, ⟨#[]⟩⟩ : Field))]) rfl rfl (by kernel_rfl) (by kernel_rfl) ?_
 refine Zb rfl rfl (Iv 0) rfl (Zb rfl rfl (Iv 0) rfl (Za (Zc (Zg (Zg (Zi (Zd rfl rfl (slv 0 0 n c) rfl ?_)))))))
 refine Zb7 (p := slv 0 0 n c) (v := Iv (n : Nat)) rfl rfl rfl rfl ?_
 by_cases h1 : (n : Nat) < 4
 refine Zn (vx := Iv (n : Nat)) (vy := Iv 4) rfl rfl (.bool true) rfl rfl (Zdt (by omega)) ?_
 refine Za (Zc (Z0 rfl (Zg (Zi ?_))))
 refine Zaw (vs := []) (v := fdV (⟨0, ⟨#[]⟩⟩ : Field)) rfl rfl rfl (by kernel_rfl) ?_
 refine Zr (p := pt 1 0) (v := fdV (⟨0, ⟨#[]⟩⟩ : Field)) (b := 1) (blk := bxB 2 (fdC (⟨0, ⟨#[]⟩⟩ : Field))) (H' := [rdB l, bxB 2 (fdC (⟨0, ⟨#[]⟩⟩ : Field))]) rfl rfl rfl (by kernel_rfl) (by kernel_rfl) ?_
 refine Zb rfl rfl (Iv 0) rfl (Zb rfl rfl (Iv 10) rfl (Za (Zc (Zv (Z5 (Zu ?_))))))
 rw [show Za2 l n = ((⟨0, ⟨#[]⟩⟩ : Field), 0, 10) from by unfold Za2; rw [if_pos h1]]
 exact Zm (v := .tuple #[fdV (⟨0, ⟨#[]⟩⟩ : Field), Iv 0, Iv 10]) (by kernel_rfl) rfl rfl (by simp [Zac, rdB]) ⟨(Zbd (by kernel_rfl) rfl), rfl, rfl, trivial⟩
 refine Zn (vx := Iv (n : Nat)) (vy := Iv 4) rfl rfl (.bool false) rfl rfl (Zdh (by omega)) ?_
 refine Za (Zc (Zx rfl (Zai (Zc (Zg ?_)))))
 refine Zj2 (by kernel_rfl) ?_
 refine Zd rfl rfl (slv 0 0 n c) rfl ?_
 refine Zbk (b := 0) (o := 0) (j := 1) (m := n) (c := c) (sz := 1) (i := 1) (k := .i64) rfl rfl rfl rfl rfl (by omega) (by omega) (by omega) ?_
 refine Zo (p := pt 0 1) (v := w8 (l.getD 1 0)) rfl rfl rfl (Zd3 rfl rfl rfl (by have := hn; omega)) ?_
 have hw5 := BitVec.isLt (l.getD 1 0)
 refine Zdb (w := w8 (l.getD 1 0)) (v := Iv ((((l.getD 1 0).toNat) : Nat) : Int)) rfl rfl rfl (Zju rfl rfl (by have := (l.getD 1 0).isLt; omega) (by have := (l.getD 1 0).isLt; omega)) ?_
 refine Zn (vx := Iv ((((l.getD 1 0).toNat) : Nat) : Int)) (vy := .int .u64 16) rfl rfl (Iv (65536 * ((((l.getD 1 0).toNat) : Nat) : Int))) rfl rfl (Z0k 16 (by omega) (by omega) (by omega) (by omega) (by omega)) ?_
 refine Zd rfl rfl (slv 0 0 n c) rfl ?_
 refine Zbk (b := 0) (o := 0) (j := 2) (m := n) (c := c) (sz := 1) (i := 2) (k := .i64) rfl rfl rfl rfl rfl (by omega) (by omega) (by omega) ?_
 refine Zo (p := pt 0 2) (v := w8 (l.getD 2 0)) rfl rfl rfl (Zd3 rfl rfl rfl (by have := hn; omega)) ?_
 have hw6 := BitVec.isLt (l.getD 2 0)
 refine Zdb (w := w8 (l.getD 2 0)) (v := Iv ((((l.getD 2 0).toNat) : Nat) : Int)) rfl rfl rfl (Zju rfl rfl (by have := (l.getD 2 0).isLt; omega) (by have := (l.getD 2 0).isLt; omega)) ?_
 refine Zn (vx := Iv ((((l.getD 2 0).toNat) : Nat) : Int)) (vy := .int .u64 8) rfl rfl (Iv (256 * ((((l.getD 2 0).toNat) : Nat) : Int))) rfl rfl (Z0k 8 (by omega) (by omega) (by omega) (by omega) (by omega)) ?_
 refine Zn (vx := Iv (65536 * ((((l.getD 1 0).toNat) : Nat) : Int))) (vy := Iv (256 * ((((l.getD 2 0).toNat) : Nat) : Int))) rfl rfl (Iv (65536 * ((((l.getD 1 0).toNat) : Nat) : Int) + 256 * ((((l.getD 2 0).toNat) : Nat) : Int))) rfl rfl (Z4v 16 ((l.getD 1 0).toNat) (256 * ((l.getD 2 0).toNat)) (by omega) (by omega) (by omega) (by omega) (by omega)) ?_
 refine Zd rfl rfl (slv 0 0 n c) rfl ?_
 refine Zbk (b := 0) (o := 0) (j := 3) (m := n) (c := c) (sz := 1) (i := 3) (k := .i64) rfl rfl rfl rfl rfl (by omega) (by omega) (by omega) ?_
 refine Zo (p := pt 0 3) (v := w8 (l.getD 3 0)) rfl rfl rfl (Zd3 rfl rfl rfl (by have := hn; omega)) ?_
 have hw7 := BitVec.isLt (l.getD 3 0)
 refine Zdb (w := w8 (l.getD 3 0)) (v := Iv ((((l.getD 3 0).toNat) : Nat) : Int)) rfl rfl rfl (Zju rfl rfl (by have := (l.getD 3 0).isLt; omega) (by have := (l.getD 3 0).isLt; omega)) ?_
 refine Zn (vx := Iv (65536 * ((((l.getD 1 0).toNat) : Nat) : Int) + 256 * ((((l.getD 2 0).toNat) : Nat) : Int))) (vy := Iv ((((l.getD 3 0).toNat) : Nat) : Int)) rfl rfl (Iv (65536 * ((((l.getD 1 0).toNat) : Nat) : Int) + 256 * ((((l.getD 2 0).toNat) : Nat) : Int) + ((((l.getD 3 0).toNat) : Nat) : Int))) rfl rfl (Z4v 8 (256 * ((l.getD 1 0).toNat) + ((l.getD 2 0).toNat)) ((l.getD 3 0).toNat) (by omega) (by omega) (by omega) (by omega) (by omega)) ?_
 refine Zb rfl rfl (Iv (65536 * ((((l.getD 1 0).toNat) : Nat) : Int) + 256 * ((((l.getD 2 0).toNat) : Nat) : Int) + ((((l.getD 3 0).toNat) : Nat) : Int))) rfl ?_
 refine Zig (by kernel_rfl) ?_
 refine Zc (Zg (Zap (Zg (Zi (Zd rfl rfl (slv 0 0 n c) rfl ?_)))))
 refine Zbk (b := 0) (o := 0) (j := 0) (m := n) (c := c) (sz := 1) (i := 0) (k := .i64) rfl rfl rfl rfl rfl (by omega) (by omega) (by omega) ?_
 refine Zo (p := pt 0 0) (v := w8 (l.getD 0 0)) rfl rfl rfl (Zd3 rfl rfl rfl (by have := hn; omega)) ?_
 rcases Bool.eq_false_or_eq_true ((l.getD 0 0) == 0#8) with h2 | h2
 refine Zn (vx := w8 (l.getD 0 0)) (vy := w8 (0#8)) rfl rfl (.bool true) rfl rfl (Eq.trans Ztw (by rw [h2] <;> rfl)) ?_
 refine Zd rfl rfl (.bool true) rfl (Zf rfl rfl (Zf rfl rfl (Zk rfl rfl (.bool true) rfl (Zb rfl rfl (.bool true) rfl (Za (Zc (Z0 rfl (Zg (Zi ?_)))))))))
 refine Zaw (vs := []) (v := fdV (⟨0, ⟨#[]⟩⟩ : Field)) rfl rfl rfl (by kernel_rfl) ?_
 refine Zr (p := pt 1 0) (v := fdV (⟨0, ⟨#[]⟩⟩ : Field)) (b := 1) (blk := bxB 2 (fdC (⟨0, ⟨#[]⟩⟩ : Field))) (H' := [rdB l, bxB 2 (fdC (⟨0, ⟨#[]⟩⟩ : Field))]) rfl rfl rfl (by kernel_rfl) (by kernel_rfl) ?_
 refine Zb rfl rfl (Iv 0) rfl (Zb rfl rfl (Iv 11) rfl (Za (Zc (Zv (Zbb (Z5 (Zu ?_)))))))
 rw [show Za2 l n = ((⟨0, ⟨#[]⟩⟩ : Field), 0, 11) from by unfold Za2; rw [if_neg h1, if_pos h2]]
 exact Zm (v := .tuple #[fdV (⟨0, ⟨#[]⟩⟩ : Field), Iv 0, Iv 11]) (by kernel_rfl) rfl rfl (by simp [Zac, rdB]) ⟨(Zbd (by kernel_rfl) rfl), rfl, rfl, trivial⟩
 refine Zn (vx := w8 (l.getD 0 0)) (vy := w8 (0#8)) rfl rfl (.bool false) rfl rfl (Eq.trans Ztw (by rw [h2] <;> rfl)) ?_
 refine Zd rfl rfl (.bool false) rfl (Zd rfl rfl (Iv (65536 * ((((l.getD 1 0).toNat) : Nat) : Int) + 256 * ((((l.getD 2 0).toNat) : Nat) : Int) + ((((l.getD 3 0).toNat) : Nat) : Int))) rfl ?_)
 by_cases h3 : 65536 < 65536 * ((((l.getD 1 0).toNat) : Nat) : Int) + 256 * ((((l.getD 2 0).toNat) : Nat) : Int) + ((((l.getD 3 0).toNat) : Nat) : Int)
 refine Zn (vx := Iv (65536 * ((((l.getD 1 0).toNat) : Nat) : Int) + 256 * ((((l.getD 2 0).toNat) : Nat) : Int) + ((((l.getD 3 0).toNat) : Nat) : Int))) (vy := Iv 65536) rfl rfl (.bool true) rfl rfl (Zf1 (by omega)) ?_
 refine Zk rfl rfl (.bool true) rfl (Zb rfl rfl (.bool true) rfl (Za (Zc (Z0 rfl (Zg (Zi ?_))))))
 refine Zaw (vs := []) (v := fdV (⟨0, ⟨#[]⟩⟩ : Field)) rfl rfl rfl (by kernel_rfl) ?_
 refine Zr (p := pt 1 0) (v := fdV (⟨0, ⟨#[]⟩⟩ : Field)) (b := 1) (blk := bxB 2 (fdC (⟨0, ⟨#[]⟩⟩ : Field))) (H' := [rdB l, bxB 2 (fdC (⟨0, ⟨#[]⟩⟩ : Field))]) rfl rfl rfl (by kernel_rfl) (by kernel_rfl) ?_
 refine Zb rfl rfl (Iv 0) rfl (Zb rfl rfl (Iv 11) rfl (Za (Zc (Zv (Zbb (Z5 (Zu ?_)))))))
 rw [show Za2 l n = ((⟨0, ⟨#[]⟩⟩ : Field), 0, 11) from by unfold Za2; rw [if_neg h1, if_neg (by rw [h2]; decide), if_pos h3]]
 exact Zm (v := .tuple #[fdV (⟨0, ⟨#[]⟩⟩ : Field), Iv 0, Iv 11]) (by kernel_rfl) rfl rfl (by simp [Zac, rdB]) ⟨(Zbd (by kernel_rfl) rfl), rfl, rfl, trivial⟩
 refine Zn (vx := Iv (65536 * ((((l.getD 1 0).toNat) : Nat) : Int) + 256 * ((((l.getD 2 0).toNat) : Nat) : Int) + ((((l.getD 3 0).toNat) : Nat) : Int))) (vy := Iv 65536) rfl rfl (.bool false) rfl rfl (Zf8 (by omega)) ?_
 refine Zk rfl rfl (.bool false) rfl (Zb rfl rfl (.bool false) rfl (Za (Zc (Zx rfl (Zg (Zi (Zd rfl rfl (slv 0 0 n c) rfl ?_)))))))
 refine Zb7 (p := slv 0 0 n c) (v := Iv (n : Nat)) rfl rfl rfl rfl ?_
 refine Zn (vx := Iv (n : Nat)) (vy := Iv 4) rfl rfl (Iv ((n : Nat) - 4)) rfl rfl (Zku (by omega) (by omega) (by omega)) ?_
 refine Zd rfl rfl (Iv (65536 * ((((l.getD 1 0).toNat) : Nat) : Int) + 256 * ((((l.getD 2 0).toNat) : Nat) : Int) + ((((l.getD 3 0).toNat) : Nat) : Int))) rfl ?_
 by_cases h4 : (n : Nat) - 4 < 65536 * ((((l.getD 1 0).toNat) : Nat) : Int) + 256 * ((((l.getD 2 0).toNat) : Nat) : Int) + ((((l.getD 3 0).toNat) : Nat) : Int)
 refine Zn (vx := Iv ((n : Nat) - 4)) (vy := Iv (65536 * ((((l.getD 1 0).toNat) : Nat) : Int) + 256 * ((((l.getD 2 0).toNat) : Nat) : Int) + ((((l.getD 3 0).toNat) : Nat) : Int))) rfl rfl (.bool true) rfl rfl (Zdt (by omega)) ?_
 refine Zb rfl rfl (.bool true) rfl (Za (Zc (Z0 rfl (Zg (Zi ?_)))))
 refine Zaw (vs := []) (v := fdV (⟨0, ⟨#[]⟩⟩ : Field)) rfl rfl rfl (by kernel_rfl) ?_
 refine Zr (p := pt 1 0) (v := fdV (⟨0, ⟨#[]⟩⟩ : Field)) (b := 1) (blk := bxB 2 (fdC (⟨0, ⟨#[]⟩⟩ : Field))) (H' := [rdB l, bxB 2 (fdC (⟨0, ⟨#[]⟩⟩ : Field))]) rfl rfl rfl (by kernel_rfl) (by kernel_rfl) ?_
 refine Zb rfl rfl (Iv 0) rfl (Zb rfl rfl (Iv 10) rfl (Za (Zc (Zv (Zbb (Z5 (Zu ?_)))))))
 rw [show Za2 l n = ((⟨0, ⟨#[]⟩⟩ : Field), 0, 10) from by unfold Za2; rw [if_neg h1, if_neg (by rw [h2]; decide), if_neg h3, if_pos h4]]
 exact Zm (v := .tuple #[fdV (⟨0, ⟨#[]⟩⟩ : Field), Iv 0, Iv 10]) (by kernel_rfl) rfl rfl (by simp [Zac, rdB]) ⟨(Zbd (by kernel_rfl) rfl), rfl, rfl, trivial⟩
 refine Zn (vx := Iv ((n : Nat) - 4)) (vy := Iv (65536 * ((((l.getD 1 0).toNat) : Nat) : Int) + 256 * ((((l.getD 2 0).toNat) : Nat) : Int) + ((((l.getD 3 0).toNat) : Nat) : Int))) rfl rfl (.bool false) rfl rfl (Zdh (by omega)) ?_
 refine Zb rfl rfl (.bool false) rfl (Za (Zc (Zx rfl (Zai (Z1 (Zc (Zg ?_)))))))
 refine Zj2 (by kernel_rfl) ?_
 refine Zd rfl rfl (slv 0 0 n c) rfl ?_
 refine Zbk (b := 0) (o := 0) (j := 0) (m := n) (c := c) (sz := 1) (i := 0) (k := .i64) rfl rfl rfl rfl rfl (by omega) (by omega) (by omega) ?_
 refine Zo (p := pt 0 0) (v := w8 (l.getD 0 0)) rfl rfl rfl (Zd3 rfl rfl rfl (by have := hn; omega)) ?_
 have hw8 := BitVec.isLt (l.getD 0 0)
 refine Zdb (w := w8 (l.getD 0 0)) (v := Iv ((((l.getD 0 0).toNat) : Nat) : Int)) rfl rfl rfl (Zju rfl rfl (by have := (l.getD 0 0).isLt; omega) (by have := (l.getD 0 0).isLt; omega)) ?_
 refine Zd rfl rfl (slv 0 0 n c) rfl (Zd rfl rfl (Iv (65536 * ((((l.getD 1 0).toNat) : Nat) : Int) + 256 * ((((l.getD 2 0).toNat) : Nat) : Int) + ((((l.getD 3 0).toNat) : Nat) : Int))) rfl ?_)
 refine Zn (vx := Iv 4) (vy := Iv (65536 * ((((l.getD 1 0).toNat) : Nat) : Int) + 256 * ((((l.getD 2 0).toNat) : Nat) : Int) + ((((l.getD 3 0).toNat) : Nat) : Int))) rfl rfl (Iv (65536 * ((((l.getD 1 0).toNat) : Nat) : Int) + 256 * ((((l.getD 2 0).toNat) : Nat) : Int) + ((((l.getD 3 0).toNat) : Nat) : Int) + 4)) rfl rfl (Za7 (by omega) (by omega) (by omega)) ?_
 refine Zec (p := slv 0 0 n c) (vl := some (Iv 4)) (vh := some (Iv (65536 * ((((l.getD 1 0).toNat) : Nat) : Int) + 256 * ((((l.getD 2 0).toNat) : Nat) : Int) + ((((l.getD 3 0).toNat) : Nat) : Int) + 4))) (v := slv 0 4 (65536 * ((l.getD 1 0).toNat) + 256 * ((l.getD 2 0).toNat) + ((l.getD 3 0).toNat)) (c - 4)) rfl rfl rfl rfl rfl (Zpl (sz := 1) (l := 4) (h := 65536 * ((l.getD 1 0).toNat) + 256 * ((l.getD 2 0).toNat) + ((l.getD 3 0).toNat) + 4) rfl rfl rfl (by omega) (by omega) (by omega) (by omega) rfl (by omega) (by omega) (by omega)) ?_
 refine Zc6 (p := slv 0 4 (65536 * ((l.getD 1 0).toNat) + 256 * ((l.getD 2 0).toNat) + ((l.getD 3 0).toNat)) (c - 4)) (v := .string (Zl ((l.drop 4).take (65536 * ((l.getD 1 0).toNat) + 256 * ((l.getD 2 0).toNat) + ((l.getD 3 0).toNat))))) rfl rfl rfl (Zmp rfl rfl rfl rfl rfl (by have := hn; omega) rfl) ?_
 refine Zaw (vs := [(0, Iv ((((l.getD 0 0).toNat) : Nat) : Int)), (1, .string (Zl ((l.drop 4).take (65536 * ((l.getD 1 0).toNat) + 256 * ((l.getD 2 0).toNat) + ((l.getD 3 0).toNat)))))]) (v := fdV (⟨((((l.getD 0 0).toNat) : Nat) : Int), (Zl ((l.drop 4).take (65536 * ((l.getD 1 0).toNat) + 256 * ((l.getD 2 0).toNat) + ((l.getD 3 0).toNat))))⟩ : Field)) rfl rfl rfl (by kernel_rfl) ?_
 refine Zd rfl rfl (Iv (65536 * ((((l.getD 1 0).toNat) : Nat) : Int) + 256 * ((((l.getD 2 0).toNat) : Nat) : Int) + ((((l.getD 3 0).toNat) : Nat) : Int))) rfl ?_
 refine Zn (vx := Iv 4) (vy := Iv (65536 * ((((l.getD 1 0).toNat) : Nat) : Int) + 256 * ((((l.getD 2 0).toNat) : Nat) : Int) + ((((l.getD 3 0).toNat) : Nat) : Int))) rfl rfl (Iv (65536 * ((((l.getD 1 0).toNat) : Nat) : Int) + 256 * ((((l.getD 2 0).toNat) : Nat) : Int) + ((((l.getD 3 0).toNat) : Nat) : Int) + 4)) rfl rfl (Za7 (by omega) (by omega) (by omega)) ?_
 refine Zr (p := pt 1 0) (v := fdV (⟨((((l.getD 0 0).toNat) : Nat) : Int), (Zl ((l.drop 4).take (65536 * ((l.getD 1 0).toNat) + 256 * ((l.getD 2 0).toNat) + ((l.getD 3 0).toNat))))⟩ : Field)) (b := 1) (blk := bxB 2 (fdC (⟨((((l.getD 0 0).toNat) : Nat) : Int), (Zl ((l.drop 4).take (65536 * ((l.getD 1 0).toNat) + 256 * ((l.getD 2 0).toNat) + ((l.getD 3 0).toNat))))⟩ : Field))) (H' := [rdB l, bxB 2 (fdC (⟨((((l.getD 0 0).toNat) : Nat) : Int), (Zl ((l.drop 4).take (65536 * ((l.getD 1 0).toNat) + 256 * ((l.getD 2 0).toNat) + ((l.getD 3 0).toNat))))⟩ : Field))]) rfl rfl rfl (by kernel_rfl) (by kernel_rfl) ?_
 refine Zb rfl rfl (Iv (65536 * ((((l.getD 1 0).toNat) : Nat) : Int) + 256 * ((((l.getD 2 0).toNat) : Nat) : Int) + ((((l.getD 3 0).toNat) : Nat) : Int) + 4)) rfl (Zb rfl rfl (Iv 0) rfl ?_)
 refine Zig (by kernel_rfl) ?_
 refine Zc (Zv (Zu ?_))
 rw [show Za2 l n = ((⟨((((l.getD 0 0).toNat) : Nat) : Int), (Zl ((l.drop 4).take (65536 * ((l.getD 1 0).toNat) + 256 * ((l.getD 2 0).toNat) + ((l.getD 3 0).toNat))))⟩ : Field), 65536 * ((((l.getD 1 0).toNat) : Nat) : Int) + 256 * ((((l.getD 2 0).toNat) : Nat) : Int) + ((((l.getD 3 0).toNat) : Nat) : Int) + 4, 0) from by unfold Za2; rw [if_neg h1, if_neg (by rw [h2]; decide), if_neg h3, if_neg h4]]
 exact Zm (v := .tuple #[fdV (⟨((((l.getD 0 0).toNat) : Nat) : Int), (Zl ((l.drop 4).take (65536 * ((l.getD 1 0).toNat) + 256 * ((l.getD 2 0).toNat) + ((l.getD 3 0).toNat))))⟩ : Field), Iv (65536 * ((((l.getD 1 0).toNat) : Nat) : Int) + 256 * ((((l.getD 2 0).toNat) : Nat) : Int) + ((((l.getD 3 0).toNat) : Nat) : Int) + 4), Iv 0]) (by kernel_rfl) rfl rfl (by simp [Zac, rdB]) ⟨(Zbd (by kernel_rfl) rfl), rfl, rfl, trivial⟩
end Go.Flat
