/- Walks. -/
import Derived.Test.YtfjkagjbanhdlaaGreatDoorE3
import Derived.Test.YtfjkagjbanhdlaaGreatDoorH9
set_option linter.unusedVariables false
set_option linter.unusedSimpArgs false
set_option maxRecDepth 20000
namespace Go.Flat
open Go.Proofs
variable {G : Glob}
def Z51 : Cod Int := ⟨fun z => [.int .i64 z], 1, fun _ => rfl, by decide⟩
def Zi5 (c : Claim) : List Field := [⟨1, (Zn c.region).1⟩, ⟨2, (Zn c.epoch).1⟩, ⟨3, (Zn c.node).1⟩, ⟨4, (Zn c.size).1⟩, ⟨5, Zm (dgL c.root)⟩]
theorem Zw1 (c : Claim) (i : Nat) (hi : i < 4) : (Zi5 c).take i ++ [⟨((i : Nat) : Int) + 1, (Zn ([c.region, c.epoch, c.node, c.size].getD i default)).1⟩] = (Zi5 c).take (i + 1) := by
 rcases i with _ | _ | _ | _ | i
 ·rfl
 ·rfl
 ·rfl
 ·rfl
 ·omega
theorem Z17 {c : Claim} (hc : (1 ≤ c.region ∧ c.region ≤ 5) ∧ (1 ≤ c.epoch ∧ c.epoch ≤ 900000000) ∧ (1 ≤ c.node ∧ c.node ≤ 3) ∧ (0 ≤ c.size ∧ c.size ≤ 100000)) (i : Nat) (hi : i < 4) : -9223372036854775808 ≤ [c.region, c.epoch, c.node, c.size].getD i default ∧ [c.region, c.epoch, c.node, c.size].getD i default ≤ 9223372036854775807 := by
 rcases i with _ | _ | _ | _ | i
 ·show _ ≤ c.region ∧ c.region ≤ _; omega
 ·show _ ≤ c.epoch ∧ c.epoch ≤ _; omega
 ·show _ ≤ c.node ∧ c.node ≤ _; omega
 ·show _ ≤ c.size ∧ c.size ≤ _; omega
 ·omega
theorem Z1e (c : Claim) : (Z9 (Zi5 c) 0 []).2 = 0 := by
 have h1 := Za7 c.region
 have h2 := Za7 c.epoch
 have h3 := Za7 c.node
 have h4 := Za7 c.size
 have h5 : (Zm (dgL c.root)).size = 32 := by rw [Za1, Zfc]
 have h := Zlo [(Zn c.region).1, (Zn c.epoch).1, (Zn c.node).1, (Zn c.size).1, Zm (dgL c.root)] 0 [] (by simp) (by
  intro x hx
  simp only [List.mem_cons, List.not_mem_nil, or_false] at hx
  rcases hx with rfl | rfl | rfl | rfl | rfl <;> omega)
 show (Z9 (Zhn 0 [(Zn c.region).1, (Zn c.epoch).1, (Zn c.node).1, (Zn c.size).1, Zm (dgL c.root)]) ((0 : Nat) : Int) []).2 = 0
 rw [h]
def Zb2 (c : Claim) : Bs × Int := if Zb0 c then ((Z9 (Zi5 c) 0 []).1, 0) else ([], 60)
theorem Zu6 (c : Claim) : (Zb2 c).1.length ≤ 100 := by
 unfold Zb2
 split
 ·have := Zif (Zi5 c) 0 []
  have h1 := Za7 c.region
  have h2 := Za7 c.epoch
  have h3 := Za7 c.node
  have h4 := Za7 c.size
  simp only [Zi5, Zok, Za1, Zfc, List.length_nil] at this
  show (Z9 (Zi5 c) 0 []).1.length ≤ 100
  simp only [Zi5]; omega
 ·exact Nat.zero_le _
theorem Zlr (ls : List Field) (n : Nat) (tag : Int) (x : ByteArray) (hn : ls.length = n) (hb : n ≤ 1000) : Z6 Tryz.prog G 102 [pt 0 0, Iv tag, .string x] [rfB (slv 1 0 n n), rwB cFd ls] (.tuple #[]) [rfB (slv 1 0 (n + 1) (n + 1)), rwB cFd (ls ++ [⟨tag, x⟩])] := by
  refine Za8 (fn := Tryz.f102) (nt := 16) rfl rfl rfl rfl ?_
  refine Zaa 1 (H' := [rfB (slv 1 0 n n), rwB cFd ls, hole]) rfl ?_
  refine Zg (Zd (pt 0 0) (Zd (pt 0 0) (Zfw (p := pt 0 0) (v := pt 0 0) ?_)))
  refine Zad (p := pt 0 0) (v := slv 1 0 n n) rfl rfl rfl rfl ?_
  refine Zd (Iv tag) (Zd (.string x) ?_)
  refine Za5 (vs := [(0, Iv tag), (1, .string x)]) (v := fdV (⟨tag, x⟩ : Field)) rfl rfl rfl (by kernel_rfl) ?_
  refine Zdb (vs := [(0, fdV (⟨tag, x⟩ : Field))]) (v := slv 2 0 1 1) (blk := rwB cFd [(⟨tag, x⟩ : Field)]) (nid := 2) (H' := [rfB (slv 1 0 n n), rwB cFd ls, rwB cFd [(⟨tag, x⟩ : Field)]]) rfl rfl rfl (by kernel_rfl) (by kernel_rfl) ?_
  have hl2 : (ls ++ [(⟨tag, x⟩ : Field)]).length = n + 1 := by have := hn; have := (rfl : _ = 1); first | (rw [List.length_append]; omega) | (rw [List.length_append, List.length_take]; omega) | (simp; omega) | simp
  refine Zbp (p := slv 1 0 n n) (q := slv 2 0 1 1) (v := slv 1 0 (n + 1) (n + 1)) (b := 1) (blk := rwB cFd (ls ++ [(⟨tag, x⟩ : Field)])) (H' := [rfB (dead), rwB cFd (ls ++ [(⟨tag, x⟩ : Field)]), rwB cFd [(⟨tag, x⟩ : Field)]]) rfl rfl rfl (.inl ⟨_, rfl⟩) rfl rfl (Zhd cFd (by_ := 24) (k := 1) (n' := n + 1) (ms := [(⟨tag, x⟩ : Field)]) (fun _ => rfl) rfl rfl (by kernel_rfl) rfl rfl (by have := hn; omega) (by omega) (by decide) (by omega)) rfl (by kernel_rfl) ?_
  refine Zfw (p := pt 0 0) (v := pt 0 0) (Z7 (p := pt 0 0) (v := slv 1 0 (n + 1) (n + 1)) (b := 0) (blk := rfB (slv 1 0 (n + 1) (n + 1))) (H' := [rfB (slv 1 0 (n + 1) (n + 1)), rwB cFd (ls ++ [(⟨tag, x⟩ : Field)]), rwB cFd [(⟨tag, x⟩ : Field)]]) (Za (Zk3 ?_)))
  exact Zk (v := .tuple #[]) rfl rfl rfl (by simp [Za0, rfB, rwB, cFd, Zmq, Zgt]) trivial
theorem Zm6 (ls : List Field) (n : Nat) (tag x : Int) (hn : ls.length = n) (hb : n ≤ 1000) (hl : -9223372036854775808 ≤ x) (hh : x ≤ 9223372036854775807) : Z6 Tryz.prog G 101 [pt 0 0, Iv tag, Iv x] [rfB (slv 1 0 n n), rwB cFd ls] (.tuple #[]) [rfB (slv 1 0 (n + 1) (n + 1)), rwB cFd (ls ++ [⟨tag, (Zn x).1⟩])] := by
 refine Za8 (fn := Tryz.f101) (nt := 17) rfl rfl rfl rfl ?_
 refine Zf (Zg (Zd (Iv x) ?_))
 refine Zo (Zti (G := G) x (by omega) (by omega)) (vals := [Iv x]) (res' := .tuple #[.string ((Zn x).1), Iv ((Zn x).2)]) rfl rfl rfl rfl rfl (by kernel_rfl) ?_
 refine Zd (.tuple #[.string ((Zn x).1), Iv ((Zn x).2)]) (Zw (vs := #[.string ((Zn x).1), Iv ((Zn x).2)]) (v := .string ((Zn x).1)) (Zw (vs := #[.string ((Zn x).1), Iv ((Zn x).2)]) (v := Iv ((Zn x).2)) (Zb (.string ((Zn x).1)) (Zb (Iv ((Zn x).2)) (Za (Zc (Zg (Zd (pt 0 0) (Zd (Iv tag) (Zd (.string ((Zn x).1)) ?_))))))))))
 refine Zdq (e := [some (0, 0), some (1, 0)]) (nid := 0) (Zlr (G := G) ls n tag ((Zn x).1) hn (by omega)) (vals := [pt 0 0, Iv tag, .string ((Zn x).1)]) (v := .tuple #[]) (H' := [rfB (slv 1 0 (n + 1) (n + 1)), rwB cFd (ls ++ [(⟨tag, (Zn x).1⟩ : Field)])]) rfl rfl rfl rfl rfl rfl ⟨⟨⟨rfl, rfl⟩, rfl, rfl, trivial⟩, ⟨(Zbd rfl rfl rfl rfl), (Zbd rfl rfl rfl rfl), trivial⟩, rfl, rfl, rfl, Nat.le_refl _⟩ (by kernel_rfl) rfl (by kernel_rfl) ?_
 refine Za (Zk3 ?_)
 exact Zk (v := .tuple #[]) rfl rfl rfl (by simp [Za0, rfB, rwB, cFd, Zmq, Zgt]) trivial
theorem Zhl (fs : List Field) (n c : Nat) (hn : fs.length = n) (hc : n ≤ c) (hb : n ≤ 1000) : Z6 Tryz.prog G 103 [slv 0 0 n c] [rwR cFd fs] (.tuple #[slv 1 0 (Z9 fs 0 []).1.length (Z9 fs 0 []).1.length, Iv (Z9 fs 0 []).2]) [rwR cFd fs, Zah (Z9 fs 0 []).1] := by
  refine Za8 (fn := Tryz.f103) (nt := 8) rfl rfl rfl rfl ?_
  refine Zaa 1 (H' := [rwR cFd fs, hole]) rfl ?_
  refine Zf (Zg (Zb (.slice none 0 0) (Zb (Iv 0) (Za (Zc (Zf (Zg (Zd (slv 0 0 n c) ?_))))))))
  refine Z2 (e := [some (0, 0)]) (nid := 1) (Z2w (G := G) fs n c hn (by omega) (by omega)) (vals := [slv 0 0 n c]) (v := .tuple #[slv 1 0 ((Z9 fs 0 []).1.length) ((Z9 fs 0 []).1.length), Iv ((Z9 fs 0 []).2)]) (H' := [rwR cFd fs, Zah ((Z9 fs 0 []).1)]) rfl rfl rfl rfl rfl rfl rfl ⟨⟨⟨rfl, rfl, rfl, by first | omega | exact Nat.le_refl _, by first | omega | exact Nat.le_refl _⟩, trivial⟩, ⟨(Zds rfl), trivial⟩, rfl, rfl, rfl⟩ (by kernel_rfl) (by kernel_rfl) ?_
  refine Zw (vs := #[slv 1 0 ((Z9 fs 0 []).1.length) ((Z9 fs 0 []).1.length), Iv ((Z9 fs 0 []).2)]) (v := slv 1 0 ((Z9 fs 0 []).1.length) ((Z9 fs 0 []).1.length)) (Zw (vs := #[slv 1 0 ((Z9 fs 0 []).1.length) ((Z9 fs 0 []).1.length), Iv ((Z9 fs 0 []).2)]) (v := Iv ((Z9 fs 0 []).2)) (Zb (slv 1 0 ((Z9 fs 0 []).1.length) ((Z9 fs 0 []).1.length)) (Zb (Iv ((Z9 fs 0 []).2)) (Za (Zc (Zq (Zr ?_)))))))
  exact Zav [0, 1] (v := .tuple #[slv 1 0 ((Z9 fs 0 []).1.length) ((Z9 fs 0 []).1.length), Iv ((Z9 fs 0 []).2)]) rfl (by kernel_rfl) rfl rfl (by decide) (by simp [Za0, rwR, Zah, cFd]) ⟨⟨rfl, rfl, rfl, by first | omega | exact Nat.le_refl _ | exact Nat.zero_le _ | (dsimp only; omega), by first | omega | exact Nat.le_refl _ | exact Nat.zero_le _ | (dsimp only; omega)⟩, rfl, trivial⟩
abbrev Y4 (c : Claim) : Blk := rwB Z51 [c.region, c.epoch, c.node, c.size]
theorem Zwt (c : Claim) : Z6 Tryz.prog G 119 [Zcb c] [] (.tuple #[slv 0 0 (Zb2 c).1.length (Zb2 c).1.length, Iv (Zb2 c).2]) [Zah (Zb2 c).1] := by
  refine Za8 (fn := Tryz.f119) (nt := 41) rfl rfl rfl rfl ?_
  refine Zaa 4 (H' := [hole, hole, hole, hole]) rfl ?_
  refine Zf (Zg (Zbq (v := Zcb c) (b := bxB 36 (Zdx c)) (nid := 0) (H' := [bxB 36 (Zdx c), hole, hole, hole]) (Zb (.slice none 0 0) (Zb (Iv 0) (Za (Zc (Zf (Zf (Zg (Zp (p := pt 0 0) (v := Zcb c) ?_))))))))))
  refine Zo (Zl7 (G := G) c) (vals := [Zcb c]) (res' := Iv (Zf0 c)) rfl rfl rfl rfl rfl rfl ?_
  refine Zb (Iv (Zf0 c)) (Za (Zc (Zf (Zg (Zd (Iv (Zf0 c)) ?_)))))
  by_cases h1 : (Zf0 c) ≠ 0
  refine Zl (vx := Iv (Zf0 c)) (vy := Iv 0) rfl rfl (.bool true) rfl rfl (Zea (by omega)) ?_
  refine Za (Zc (Zx rfl (Zf (Zg (Zd (Iv (Zf0 c)) (Zb (.slice none 0 0) (Zb (Iv (Zf0 c)) (Za (Zc ?_)))))))))
  refine Zbo (Zb6.nilTmp (i := 2) (b := 1) true 1 rfl (by decide) rfl) ?_
  refine Zq (Zz (Zr ?_))
  rw [show Zb2 c = ([], (Zf0 c)) from if_neg (fun q => Zv5 (c := c) (by omega) q) |>.trans (by first | rfl | (unfold Zf0; rw [if_neg (Zv5 (c := c) (by omega))]))]
  exact Zav [1] (v := .tuple #[slv 1 0 0 0, Iv (Zf0 c)]) rfl (by kernel_rfl) rfl rfl (by decide) (by simp [Za0, Zah]) ⟨⟨rfl, rfl, rfl, by first | omega | exact Nat.le_refl _ | exact Nat.zero_le _ | (dsimp only; omega), by first | omega | exact Nat.le_refl _ | exact Nat.zero_le _ | (dsimp only; omega)⟩, rfl, trivial⟩
  refine Zl (vx := Iv (Zf0 c)) (vy := Iv 0) rfl rfl (.bool false) rfl rfl (Zdz (by omega)) ?_
  refine Za (Zc (Zu rfl (Z0 (Zc (Zf (Zg (Zam (b := rfB (.slice none 0 0)) (nid := 1) (H' := [bxB 36 (Zdx c), rfB (.slice none 0 0), hole, hole]) (Za (Zc (Zf (Zf ?_)))))))))))
  have hc := Zvp (c := c) (by omega)
  unfold Zb0 at hc
  refine Zbo (Zb6.nilCell (k := 1) (j := 0) (b := 2) true 2 rfl (by decide) rfl (by show 0 < 1; decide) rfl rfl) ?_
  refine Zg (Zh (b := 0) (o := 0) (n := 0) (o' := 0) (Zp (p := pt 0 0) (v := Iv c.region) (Zh (b := 0) (o := 0) (n := 1) (o' := 1) (Zp (p := pt 0 1) (v := Iv c.epoch) (Zh (b := 0) (o := 0) (n := 2) (o' := 2) (Zp (p := pt 0 2) (v := Iv c.node) (Zh (b := 0) (o := 0) (n := 3) (o' := 3) (Zp (p := pt 0 3) (v := Iv c.size) ?_))))))))
  refine Zdb (vs := [(0, Iv c.region), (1, Iv c.epoch), (2, Iv c.node), (3, Iv c.size)]) (v := slv 3 0 4 4) (blk := rwB Z51 [c.region, c.epoch, c.node, c.size]) (nid := 3) (H' := [bxB 36 (Zdx c), rfB (slv 2 0 0 0), rwB cFd [], Y4 c]) rfl rfl rfl (by kernel_rfl) (by kernel_rfl) ?_
  refine Zcu (p := slv 3 0 4 4) (v := Iv 4) (Zd (Iv 0) (Za (Zc (Z1 ?_))))
  refine Zbg (fun x : Nat × (List Field) => match x with | (i, acc) => [Zcb c, pt 0 0, .slice none 0 0, Iv 0, Iv (Zf0 c), pt 1 0, dead, dead, Zcb c, Iv (Zf0 c), Iv (Zf0 c), .bool false, dead, pt 0 0, Iv c.region, pt 0 1, Iv c.epoch, pt 0 2, Iv c.node, pt 0 3, Iv c.size, slv 3 0 4 4, Iv 4, Iv (i : Nat)]) (fun x : Nat × (List Field) => match x with | (i, acc) => [bxB 36 (Zdx c), rfB (slv 2 0 i i), rwB cFd acc, rwB Z51 [c.region, c.epoch, c.node, c.size]]) (fun x : Nat × (List Field) => match x with | (i, acc) => acc = (Zi5 c).take i ∧ i ≤ 4 ∧ acc.length = i) (fun x : Nat × (List Field) => match x with | (i, acc) => 4 - i) (0, []) ⟨rfl, by omega, rfl⟩ ?_ ?_
  · refine Z5 (n := 4) rfl ?_ (by kernel_rfl) (by kernel_rfl)
    repeat (first | exact trivial | refine ⟨.inl rfl, ?_⟩ | refine ⟨.inr ⟨rfl, rfl⟩, ?_⟩ | refine ⟨.inr ⟨congrArg (Value.int .i64) (by first | omega | (dsimp only; omega)), rfl⟩, ?_⟩)
  rintro ⟨i, acc⟩ ⟨hR, hi, ha⟩
  dsimp only at *
  refine Zaa 1 (H' := [bxB 36 (Zdx c), rfB (slv 2 0 i i), rwB cFd acc, Y4 c, hole]) rfl ?_
  refine Zf (Zg ?_)
  by_cases h2 : (i : Nat) < 4
  refine Zl (vx := Iv (i : Nat)) (vy := Iv 4) rfl rfl (.bool true) rfl rfl (Zcc (by omega)) ?_
  refine Za (Zc (Zf (Zx rfl (Z0 (Zc (Zf (Z1 (Zf (Zg (Zd (Iv (i : Nat)) ?_))))))))))
  refine Zbe (b := 3) (o := 0) (j := i) (m := 4) (c := 4) (sz := 1) (i := (i : Nat)) (k := .i64) rfl rfl rfl rfl rfl (by omega) (by omega) (by omega) ?_
  refine Zad (p := pt 3 i) (v := Iv (([c.region, c.epoch, c.node, c.size]).getD i default)) rfl rfl rfl (Z30 (m := 1) Z51 (l := [c.region, c.epoch, c.node, c.size]) (i := i) rfl rfl rfl rfl (by have : ([c.region, c.epoch, c.node, c.size]).length = 4 := rfl; omega) (by omega) rfl rfl) ?_
  refine Zb (Iv (i : Nat)) (Zb (Iv (([c.region, c.epoch, c.node, c.size]).getD i default)) (Za (Zc ?_)))
  have hx := Z17 hc i (by omega)
  refine Zg (Zd (Iv (i : Nat)) ?_)
  refine Zl (vx := Iv (i : Nat)) (vy := Iv 1) rfl rfl (Iv ((i : Nat) + 1)) rfl rfl (Za3 (by omega) (by omega) (by omega)) ?_
  refine Zd (Iv (([c.region, c.epoch, c.node, c.size]).getD i default)) ?_
  refine Zdq (e := [some (1, 0), some (2, 0)]) (nid := 0) (Zm6 (G := G) acc i ((i : Nat) + 1) (([c.region, c.epoch, c.node, c.size]).getD i default) ha (by omega) (by omega) (by omega)) (vals := [pt 1 0, Iv ((i : Nat) + 1), Iv (([c.region, c.epoch, c.node, c.size]).getD i default)]) (v := .tuple #[]) (H' := [bxB 36 (Zdx c), rfB (slv 2 0 (i + 1) (i + 1)), rwB cFd (acc ++ [(⟨(i : Nat) + 1, (Zn (([c.region, c.epoch, c.node, c.size]).getD i default)).1⟩ : Field)]), Y4 c, hole]) rfl rfl rfl rfl rfl rfl ⟨⟨⟨rfl, rfl⟩, rfl, rfl, trivial⟩, ⟨(Zbd rfl rfl rfl rfl), (Zbd rfl rfl rfl rfl), trivial⟩, rfl, rfl, rfl, Nat.le_refl _⟩ (by kernel_rfl) rfl (by kernel_rfl) ?_
  refine Za (Z4 (Zc (Zg ?_)))
  refine Zl (vx := Iv (i : Nat)) (vy := Iv 1) rfl rfl (Iv ((i : Nat) + 1)) rfl rfl (Za3 (by omega) (by omega) (by omega)) ?_
  refine Zd (Iv ((i : Nat) + 1)) (Za ?_)
  refine Zao ⟨((i + 1), (acc ++ [(⟨(i : Nat) + 1, (Zn (([c.region, c.epoch, c.node, c.size]).getD i default)).1⟩ : Field)])), ⟨by dsimp only; rw [hR]; exact Zw1 c i (by omega), by dsimp only; omega, by rw [List.length_append, ha]; rfl⟩, by show 4 - (i + 1) < 4 - i; omega, ?_⟩
  refine Z5 (n := 4) rfl ?_ (by kernel_rfl) (by kernel_rfl)
  repeat (first | exact trivial | refine ⟨.inl rfl, ?_⟩ | refine ⟨.inr ⟨rfl, rfl⟩, ?_⟩ | refine ⟨.inr ⟨congrArg (Value.int .i64) (by first | omega | (dsimp only; omega)), rfl⟩, ?_⟩)
  refine Zl (vx := Iv (i : Nat)) (vy := Iv 4) rfl rfl (.bool false) rfl rfl (Zb5 (by omega)) ?_
  refine Za (Zc (Zf (Zu rfl (Zbb (Zaq (Zau (Zax rfl (Zc (Zf ?_)))))))))
  have hi4 : i = 4 := by omega
  refine Zg (Zh (b := 0) (o := 0) (n := 4) (o' := 4) ?_)
  refine Zc7 (p := pt 0 4) (vl := none) (vh := none) (v := slv 0 4 32 32) rfl rfl rfl rfl rfl rfl ?_
  refine Ze2 (p := slv 0 4 32 32) (v := .string (Zm (dgL c.root))) rfl rfl rfl (Zem (l := (dgL c.root)) rfl rfl rfl rfl (of_decide_eq_true (by kernel_rfl)) (by kernel_rfl)) ?_
  refine Zdq (e := [some (1, 0), some (2, 0)]) (nid := 0) (Zlr (G := G) acc i 5 (Zm (dgL c.root)) ha (by omega)) (vals := [pt 1 0, Iv 5, .string (Zm (dgL c.root))]) (v := .tuple #[]) (H' := [bxB 36 (Zdx c), rfB (slv 2 0 (i + 1) (i + 1)), rwB cFd (acc ++ [(⟨5, (Zm (dgL c.root))⟩ : Field)]), Y4 c, hole]) rfl rfl rfl rfl rfl rfl ⟨⟨⟨rfl, rfl⟩, rfl, rfl, trivial⟩, ⟨(Zbd rfl rfl rfl rfl), (Zbd rfl rfl rfl rfl), trivial⟩, rfl, rfl, rfl, Nat.le_refl _⟩ (by kernel_rfl) rfl (by kernel_rfl) ?_
  refine Za (Zc (Zf (Zg ?_)))
  refine Zad (p := pt 1 0) (v := slv 2 0 (i + 1) (i + 1)) rfl rfl rfl rfl ?_
  refine Z2 (e := [some (2, 0)]) (nid := 4) (Zhl (G := G) (acc ++ [(⟨5, (Zm (dgL c.root))⟩ : Field)]) (i + 1) (i + 1) (by rw [List.length_append, ha]; rfl) (by omega) (by omega)) (vals := [slv 2 0 (i + 1) (i + 1)]) (v := .tuple #[slv 4 0 ((Z9 (acc ++ [(⟨5, (Zm (dgL c.root))⟩ : Field)]) 0 []).1.length) ((Z9 (acc ++ [(⟨5, (Zm (dgL c.root))⟩ : Field)]) 0 []).1.length), Iv ((Z9 (acc ++ [(⟨5, (Zm (dgL c.root))⟩ : Field)]) 0 []).2)]) (H' := [bxB 36 (Zdx c), rfB (slv 2 0 (i + 1) (i + 1)), rwB cFd (acc ++ [(⟨5, (Zm (dgL c.root))⟩ : Field)]), Y4 c, Zah ((Z9 (acc ++ [(⟨5, (Zm (dgL c.root))⟩ : Field)]) 0 []).1)]) rfl rfl rfl rfl rfl rfl rfl ⟨⟨⟨rfl, rfl, rfl, by first | omega | exact Nat.le_refl _, by first | omega | exact Nat.le_refl _⟩, trivial⟩, ⟨(Zgb rfl), trivial⟩, rfl, rfl, rfl⟩ (by kernel_rfl) (by kernel_rfl) ?_
  refine Zw (vs := #[slv 4 0 ((Z9 (acc ++ [(⟨5, (Zm (dgL c.root))⟩ : Field)]) 0 []).1.length) ((Z9 (acc ++ [(⟨5, (Zm (dgL c.root))⟩ : Field)]) 0 []).1.length), Iv ((Z9 (acc ++ [(⟨5, (Zm (dgL c.root))⟩ : Field)]) 0 []).2)]) (v := slv 4 0 ((Z9 (acc ++ [(⟨5, (Zm (dgL c.root))⟩ : Field)]) 0 []).1.length) ((Z9 (acc ++ [(⟨5, (Zm (dgL c.root))⟩ : Field)]) 0 []).1.length)) (Zw (vs := #[slv 4 0 ((Z9 (acc ++ [(⟨5, (Zm (dgL c.root))⟩ : Field)]) 0 []).1.length) ((Z9 (acc ++ [(⟨5, (Zm (dgL c.root))⟩ : Field)]) 0 []).1.length), Iv ((Z9 (acc ++ [(⟨5, (Zm (dgL c.root))⟩ : Field)]) 0 []).2)]) (v := Iv ((Z9 (acc ++ [(⟨5, (Zm (dgL c.root))⟩ : Field)]) 0 []).2)) (Zb (slv 4 0 ((Z9 (acc ++ [(⟨5, (Zm (dgL c.root))⟩ : Field)]) 0 []).1.length) ((Z9 (acc ++ [(⟨5, (Zm (dgL c.root))⟩ : Field)]) 0 []).1.length)) (Zb (Iv ((Z9 (acc ++ [(⟨5, (Zm (dgL c.root))⟩ : Field)]) 0 []).2)) (Za (Zc (Zq (Zr ?_)))))))
  have e : acc ++ [(⟨5, Zm (dgL c.root)⟩ : Field)] = Zi5 c := by rw [hR, hi4]; rfl
  have ez := Z1e c
  rw [← e] at ez
  rw [show Zb2 c = ((Z9 (acc ++ [(⟨5, Zm (dgL c.root)⟩ : Field)]) 0 []).1, (Z9 (acc ++ [(⟨5, Zm (dgL c.root)⟩ : Field)]) 0 []).2) from by rw [ez, e]; exact if_pos (Zvp (by omega))]
  exact Zav [4] (v := .tuple #[slv 4 0 ((Z9 (acc ++ [(⟨5, (Zm (dgL c.root))⟩ : Field)]) 0 []).1.length) ((Z9 (acc ++ [(⟨5, (Zm (dgL c.root))⟩ : Field)]) 0 []).1.length), Iv ((Z9 (acc ++ [(⟨5, (Zm (dgL c.root))⟩ : Field)]) 0 []).2)]) rfl (by kernel_rfl) rfl rfl (by decide) (by simp [Za0, Zah]) ⟨⟨rfl, rfl, rfl, by first | omega | exact Nat.le_refl _ | exact Nat.zero_le _ | (dsimp only; omega), by first | omega | exact Nat.le_refl _ | exact Nat.zero_le _ | (dsimp only; omega)⟩, rfl, trivial⟩
end Go.Flat
