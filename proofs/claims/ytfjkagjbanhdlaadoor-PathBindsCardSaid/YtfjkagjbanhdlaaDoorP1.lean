/- Walks. -/
import Derived.Test.YtfjkagjbanhdlaaDoorE3
import Derived.Test.YtfjkagjbanhdlaaDoorH9
set_option linter.unusedVariables false
set_option linter.unusedSimpArgs false
set_option maxRecDepth 20000
namespace Go.Flat
open Go.Proofs
variable {G : Glob}
def Ztk : Cod Int := ⟨fun z => [.int .i64 z], 1, fun _ => rfl, by decide⟩
def Zh9 (c : Claim) : List Field := [⟨1, (Zr c.region).1⟩, ⟨2, (Zr c.epoch).1⟩, ⟨3, (Zr c.node).1⟩, ⟨4, (Zr c.size).1⟩, ⟨5, Zn (dgL c.root)⟩]
theorem Ztg (c : Claim) (i : Nat) (hi : i < 4) : (Zh9 c).take i ++ [⟨((i : Nat) : Int) + 1, (Zr ([c.region, c.epoch, c.node, c.size].getD i default)).1⟩] = (Zh9 c).take (i + 1) := by
 rcases i with _ | _ | _ | _ | i
 ·rfl
 ·rfl
 ·rfl
 ·rfl
 ·omega
theorem Zyt {c : Claim} (hc : (1 ≤ c.region ∧ c.region ≤ 5) ∧ (1 ≤ c.epoch ∧ c.epoch ≤ 900000000) ∧ (1 ≤ c.node ∧ c.node ≤ 3) ∧ (0 ≤ c.size ∧ c.size ≤ 100000)) (i : Nat) (hi : i < 4) : -9223372036854775808 ≤ [c.region, c.epoch, c.node, c.size].getD i default ∧ [c.region, c.epoch, c.node, c.size].getD i default ≤ 9223372036854775807 := by
 rcases i with _ | _ | _ | _ | i
 ·show _ ≤ c.region ∧ c.region ≤ _; omega
 ·show _ ≤ c.epoch ∧ c.epoch ≤ _; omega
 ·show _ ≤ c.node ∧ c.node ≤ _; omega
 ·show _ ≤ c.size ∧ c.size ≤ _; omega
 ·omega
theorem Zzj (c : Claim) : (Z8 (Zh9 c) 0 []).2 = 0 := by
 have h1 := Zbc c.region
 have h2 := Zbc c.epoch
 have h3 := Zbc c.node
 have h4 := Zbc c.size
 have h5 : (Zn (dgL c.root)).size = 32 := by rw [Zay, Zev]
 have h := Znl [(Zr c.region).1, (Zr c.epoch).1, (Zr c.node).1, (Zr c.size).1, Zn (dgL c.root)] 0 [] (by simp) (by
  intro x hx
  simp only [List.mem_cons, List.not_mem_nil, or_false] at hx
  rcases hx with rfl | rfl | rfl | rfl | rfl <;> omega)
 show (Z8 (Zgd 0 [(Zr c.region).1, (Zr c.epoch).1, (Zr c.node).1, (Zr c.size).1, Zn (dgL c.root)]) ((0 : Nat) : Int) []).2 = 0
 rw [h]
def Zcf (c : Claim) : Bs × Int := if Ze3 c then ((Z8 (Zh9 c) 0 []).1, 0) else ([], 60)
theorem Zs5 (c : Claim) : (Zcf c).1.length ≤ 100 := by
 unfold Zcf
 split
 ·have := Zg4 (Zh9 c) 0 []
  have h1 := Zbc c.region
  have h2 := Zbc c.epoch
  have h3 := Zbc c.node
  have h4 := Zbc c.size
  simp only [Zh9, Znp, Zay, Zev, List.length_nil] at this
  show (Z8 (Zh9 c) 0 []).1.length ≤ 100
  simp only [Zh9]; omega
 ·exact Nat.zero_le _
theorem Zku (ls : List Field) (n : Nat) (tag : Int) (x : ByteArray) (hn : ls.length = n) (hb : n ≤ 1000) : Zae Tryd.prog G 53 [pt 0 0, Iv tag, .string x] [rfB (slv 1 0 n n), rwB cFd ls] (.tuple #[]) [rfB (slv 1 0 (n + 1) (n + 1)), rwB cFd (ls ++ [⟨tag, x⟩])] := by
  refine Zbj (fn := Tryd.f53) (nt := 16) rfl rfl rfl rfl ?_
  refine Zaj 1 (H' := [rfB (slv 1 0 n n), rwB cFd ls, hole]) rfl ?_
  refine Zg (Ze rfl rfl (pt 0 0) rfl (Ze rfl rfl (pt 0 0) rfl ?_))
  refine Zc0 (p := pt 0 0) (v := pt 0 0) rfl rfl rfl rfl ?_
  refine Zl (p := pt 0 0) (v := slv 1 0 n n) rfl rfl rfl rfl ?_
  refine Ze rfl rfl (Iv tag) rfl (Ze rfl rfl (.string x) rfl ?_)
  refine Zbn (vs := [(0, Iv tag), (1, .string x)]) (v := fdV (⟨tag, x⟩ : Field)) rfl rfl rfl (by kernel_rfl) ?_
  refine Zda (vs := [(0, fdV (⟨tag, x⟩ : Field))]) (v := slv 2 0 1 1) (blk := rwB cFd [(⟨tag, x⟩ : Field)]) (nid := 2) (H' := [rfB (slv 1 0 n n), rwB cFd ls, rwB cFd [(⟨tag, x⟩ : Field)]]) rfl rfl rfl (by kernel_rfl) (by kernel_rfl) ?_
  have hl2 : (ls ++ [(⟨tag, x⟩ : Field)]).length = n + 1 := by have := hn; have := (rfl : _ = 1); first | (rw [List.length_append]; omega) | (rw [List.length_append, List.length_take]; omega) | (simp; omega) | simp
  refine Zcv (p := slv 1 0 n n) (q := slv 2 0 1 1) (v := slv 1 0 (n + 1) (n + 1)) (b := 1) (blk := rwB cFd (ls ++ [(⟨tag, x⟩ : Field)])) (H' := [rfB (dead), rwB cFd (ls ++ [(⟨tag, x⟩ : Field)]), rwB cFd [(⟨tag, x⟩ : Field)]]) rfl rfl rfl (.inl ⟨_, rfl⟩) rfl rfl (Zr0 cFd (by_ := 24) (k := 1) (n' := n + 1) (ms := [(⟨tag, x⟩ : Field)]) (fun _ => rfl) rfl rfl (by kernel_rfl) rfl rfl (by have := hn; omega) (by omega) (by decide) (by omega)) rfl (by kernel_rfl) ?_
  refine Zc0 (p := pt 0 0) (v := pt 0 0) rfl rfl rfl rfl ?_
  refine Zx (p := pt 0 0) (v := slv 1 0 (n + 1) (n + 1)) (b := 0) (blk := rfB (slv 1 0 (n + 1) (n + 1))) (H' := [rfB (slv 1 0 (n + 1) (n + 1)), rwB cFd (ls ++ [(⟨tag, x⟩ : Field)]), rwB cFd [(⟨tag, x⟩ : Field)]]) rfl rfl rfl (by kernel_rfl) (by kernel_rfl) ?_
  refine Za (Zj0 ?_)
  exact Zm (v := .tuple #[]) rfl rfl rfl (by simp [Za9, rfB, rwB, cFd, Zll, Zfu]) trivial
theorem Zlt (ls : List Field) (n : Nat) (tag x : Int) (hn : ls.length = n) (hb : n ≤ 1000) (hl : -9223372036854775808 ≤ x) (hh : x ≤ 9223372036854775807) : Zae Tryd.prog G 52 [pt 0 0, Iv tag, Iv x] [rfB (slv 1 0 n n), rwB cFd ls] (.tuple #[]) [rfB (slv 1 0 (n + 1) (n + 1)), rwB cFd (ls ++ [⟨tag, (Zr x).1⟩])] := by
 refine Zbj (fn := Tryd.f52) (nt := 17) rfl rfl rfl rfl ?_
 refine Zf (Zg (Ze rfl rfl (Iv x) rfl ?_))
 refine Zq (Zre (G := G) x (by omega) (by omega)) (vals := [Iv x]) (res' := .tuple #[.string ((Zr x).1), Iv ((Zr x).2)]) rfl rfl rfl rfl rfl (by kernel_rfl) ?_
 refine Ze rfl rfl (.tuple #[.string ((Zr x).1), Iv ((Zr x).2)]) rfl (Zp (vs := #[.string ((Zr x).1), Iv ((Zr x).2)]) (v := .string ((Zr x).1)) rfl rfl rfl rfl (Zp (vs := #[.string ((Zr x).1), Iv ((Zr x).2)]) (v := Iv ((Zr x).2)) rfl rfl rfl rfl (Zc rfl rfl (.string ((Zr x).1)) rfl (Zc rfl rfl (Iv ((Zr x).2)) rfl (Za (Zb (Zg (Ze rfl rfl (pt 0 0) rfl (Ze rfl rfl (Iv tag) rfl (Ze rfl rfl (.string ((Zr x).1)) rfl ?_))))))))))
 refine Zct (e := [some (0, 0), some (1, 0)]) (nid := 0) (Zku (G := G) ls n tag ((Zr x).1) hn (by omega)) (vals := [pt 0 0, Iv tag, .string ((Zr x).1)]) (v := .tuple #[]) (H' := [rfB (slv 1 0 (n + 1) (n + 1)), rwB cFd (ls ++ [(⟨tag, (Zr x).1⟩ : Field)])]) rfl rfl rfl rfl rfl rfl ⟨⟨⟨rfl, rfl⟩, rfl, rfl, trivial⟩, ⟨(Zau rfl rfl rfl rfl), (Zau rfl rfl rfl rfl), trivial⟩, rfl, rfl, rfl, Nat.le_refl _⟩ (by kernel_rfl) rfl (by kernel_rfl) ?_
 refine Za (Zj0 ?_)
 exact Zm (v := .tuple #[]) rfl rfl rfl (by simp [Za9, rfB, rwB, cFd, Zll, Zfu]) trivial
theorem Zgc (fs : List Field) (n c : Nat) (hn : fs.length = n) (hc : n ≤ c) (hb : n ≤ 1000) : Zae Tryd.prog G 54 [slv 0 0 n c] [rwR cFd fs] (.tuple #[slv 1 0 (Z8 fs 0 []).1.length (Z8 fs 0 []).1.length, Iv (Z8 fs 0 []).2]) [rwR cFd fs, Zaq (Z8 fs 0 []).1] := by
  refine Zbj (fn := Tryd.f54) (nt := 8) rfl rfl rfl rfl ?_
  refine Zaj 1 (H' := [rwR cFd fs, hole]) rfl ?_
  refine Zf (Zg (Zc rfl rfl (.slice none 0 0) rfl (Zc rfl rfl (Iv 0) rfl (Za (Zb (Zf (Zg (Ze rfl rfl (slv 0 0 n c) rfl ?_))))))))
  refine Z4 (e := [some (0, 0)]) (nid := 1) (Z0v (G := G) fs n c hn (by omega) (by omega)) (vals := [slv 0 0 n c]) (v := .tuple #[slv 1 0 ((Z8 fs 0 []).1.length) ((Z8 fs 0 []).1.length), Iv ((Z8 fs 0 []).2)]) (H' := [rwR cFd fs, Zaq ((Z8 fs 0 []).1)]) rfl rfl rfl rfl rfl rfl rfl ⟨⟨⟨rfl, rfl, rfl, by first | omega | exact Nat.le_refl _, by first | omega | exact Nat.le_refl _⟩, trivial⟩, ⟨(Zd2 rfl), trivial⟩, rfl, rfl, rfl⟩ (by kernel_rfl) (by kernel_rfl) ?_
  refine Zp (vs := #[slv 1 0 ((Z8 fs 0 []).1.length) ((Z8 fs 0 []).1.length), Iv ((Z8 fs 0 []).2)]) (v := slv 1 0 ((Z8 fs 0 []).1.length) ((Z8 fs 0 []).1.length)) rfl rfl rfl rfl (Zp (vs := #[slv 1 0 ((Z8 fs 0 []).1.length) ((Z8 fs 0 []).1.length), Iv ((Z8 fs 0 []).2)]) (v := Iv ((Z8 fs 0 []).2)) rfl rfl rfl rfl (Zc rfl rfl (slv 1 0 ((Z8 fs 0 []).1.length) ((Z8 fs 0 []).1.length)) rfl (Zc rfl rfl (Iv ((Z8 fs 0 []).2)) rfl (Za (Zb (Zt (Zu ?_)))))))
  exact Za7 [0, 1] (v := .tuple #[slv 1 0 ((Z8 fs 0 []).1.length) ((Z8 fs 0 []).1.length), Iv ((Z8 fs 0 []).2)]) rfl (by kernel_rfl) rfl rfl (by decide) (by simp [Za9, rwR, Zaq, cFd]) ⟨⟨rfl, rfl, rfl, by first | omega | exact Nat.le_refl _ | exact Nat.zero_le _ | (dsimp only; omega), by first | omega | exact Nat.le_refl _ | exact Nat.zero_le _ | (dsimp only; omega)⟩, rfl, trivial⟩
theorem Ztj (c : Claim) : Zae Tryd.prog G 71 [Zeo c] [] (.tuple #[slv 0 0 (Zcf c).1.length (Zcf c).1.length, Iv (Zcf c).2]) [Zaq (Zcf c).1] := by
  refine Zbj (fn := Tryd.f71) (nt := 41) rfl rfl rfl rfl ?_
  refine Zaj 4 (H' := [hole, hole, hole, hole]) rfl ?_
  refine Zf (Zg ?_)
  refine Zbr (v := Zeo c) (b := bxB 36 (Zee c)) (nid := 0) (H' := [bxB 36 (Zee c), hole, hole, hole]) rfl rfl rfl (by kernel_rfl) (by kernel_rfl) ?_
  refine Zc rfl rfl (.slice none 0 0) rfl (Zc rfl rfl (Iv 0) rfl (Za (Zb (Zf (Zf (Zg ?_))))))
  refine Zl (p := pt 0 0) (v := Zeo c) rfl rfl rfl (by kernel_rfl) ?_
  refine Zq (Zkz (G := G) c) (vals := [Zeo c]) (res' := Iv (Ze4 c)) rfl rfl rfl rfl rfl rfl ?_
  refine Zc rfl rfl (Iv (Ze4 c)) rfl (Za (Zb (Zf (Zg (Ze rfl rfl (Iv (Ze4 c)) rfl ?_)))))
  by_cases h1 : (Ze4 c) ≠ 0
  refine Zk (vx := Iv (Ze4 c)) (vy := Iv 0) rfl rfl (.bool true) rfl rfl (Zdg (by omega)) ?_
  refine Za (Zb (Zz rfl (Zf (Zg (Ze rfl rfl (Iv (Ze4 c)) rfl (Zc rfl rfl (.slice none 0 0) rfl (Zc rfl rfl (Iv (Ze4 c)) rfl (Za (Zb ?_)))))))))
  refine Zb4 (Zbz.nilTmp (i := 2) (b := 1) true 1 rfl (by decide) rfl) ?_
  refine Zt (Z3 (Zu ?_))
  rw [show Zcf c = ([], (Ze4 c)) from if_neg (fun q => Zus (c := c) (by omega) q) |>.trans (by first | rfl | (unfold Ze4; rw [if_neg (Zus (c := c) (by omega))]))]
  exact Za7 [1] (v := .tuple #[slv 1 0 0 0, Iv (Ze4 c)]) rfl (by kernel_rfl) rfl rfl (by decide) (by simp [Za9, Zaq]) ⟨⟨rfl, rfl, rfl, by first | omega | exact Nat.le_refl _ | exact Nat.zero_le _ | (dsimp only; omega), by first | omega | exact Nat.le_refl _ | exact Nat.zero_le _ | (dsimp only; omega)⟩, rfl, trivial⟩
  refine Zk (vx := Iv (Ze4 c)) (vy := Iv 0) rfl rfl (.bool false) rfl rfl (Zc5 (by omega)) ?_
  refine Za (Zb (Zv rfl (Z2 (Zb (Zf (Zg ?_))))))
  refine Z7 (b := rfB (.slice none 0 0)) (nid := 1) (H' := [bxB 36 (Zee c), rfB (.slice none 0 0), hole, hole]) rfl rfl (by kernel_rfl) (by kernel_rfl) ?_
  refine Za (Zb (Zf (Zf ?_)))
  have hc := Zuc (c := c) (by omega)
  unfold Ze3 at hc
  refine Zb4 (Zbz.nilCell (k := 1) (j := 0) (b := 2) true 2 rfl (by decide) rfl (by show 0 < 1; decide) rfl rfl) ?_
  refine Zg ?_
  refine Zi (b := 0) (o := 0) (n := 0) (o' := 0) rfl rfl rfl rfl rfl ?_
  refine Zl (p := pt 0 0) (v := Iv c.region) rfl rfl rfl (by kernel_rfl) ?_
  refine Zi (b := 0) (o := 0) (n := 1) (o' := 1) rfl rfl rfl rfl rfl ?_
  refine Zl (p := pt 0 1) (v := Iv c.epoch) rfl rfl rfl (by kernel_rfl) ?_
  refine Zi (b := 0) (o := 0) (n := 2) (o' := 2) rfl rfl rfl rfl rfl ?_
  refine Zl (p := pt 0 2) (v := Iv c.node) rfl rfl rfl (by kernel_rfl) ?_
  refine Zi (b := 0) (o := 0) (n := 3) (o' := 3) rfl rfl rfl rfl rfl ?_
  refine Zl (p := pt 0 3) (v := Iv c.size) rfl rfl rfl (by kernel_rfl) ?_
  refine Zda (vs := [(0, Iv c.region), (1, Iv c.epoch), (2, Iv c.node), (3, Iv c.size)]) (v := slv 3 0 4 4) (blk := rwB Ztk [c.region, c.epoch, c.node, c.size]) (nid := 3) (H' := [bxB 36 (Zee c), rfB (slv 2 0 0 0), rwB cFd [], rwB Ztk [c.region, c.epoch, c.node, c.size]]) rfl rfl rfl (by kernel_rfl) (by kernel_rfl) ?_
  refine Zbl (p := slv 3 0 4 4) (v := Iv 4) rfl rfl rfl rfl ?_
  refine Ze rfl rfl (Iv 0) rfl (Za (Zb (Z9 ?_)))
  refine Zch (fun x : Nat × (List Field) => match x with | (i, acc) => [Zeo c, pt 0 0, .slice none 0 0, Iv 0, Iv (Ze4 c), pt 1 0, dead, dead, Zeo c, Iv (Ze4 c), Iv (Ze4 c), .bool false, dead, pt 0 0, Iv c.region, pt 0 1, Iv c.epoch, pt 0 2, Iv c.node, pt 0 3, Iv c.size, slv 3 0 4 4, Iv 4, Iv (i : Nat)]) (fun x : Nat × (List Field) => match x with | (i, acc) => [bxB 36 (Zee c), rfB (slv 2 0 i i), rwB cFd acc, rwB Ztk [c.region, c.epoch, c.node, c.size]]) (fun x : Nat × (List Field) => match x with | (i, acc) => acc = (Zh9 c).take i ∧ i ≤ 4 ∧ acc.length = i) (fun x : Nat × (List Field) => match x with | (i, acc) => 4 - i) (0, []) ⟨rfl, by omega, rfl⟩ ?_ ?_
  · refine Zal (n := 4) rfl ?_ (by kernel_rfl) (by kernel_rfl)
    repeat (first | exact trivial | refine ⟨.inl rfl, ?_⟩ | refine ⟨.inr ⟨rfl, rfl⟩, ?_⟩ | refine ⟨.inr ⟨congrArg (Value.int .i64) (by first | omega | (dsimp only; omega)), rfl⟩, ?_⟩)
  rintro ⟨i, acc⟩ ⟨hR, hi, ha⟩
  dsimp only at *
  refine Zaj 1 (H' := [bxB 36 (Zee c), rfB (slv 2 0 i i), rwB cFd acc, rwB Ztk [c.region, c.epoch, c.node, c.size], hole]) rfl ?_
  refine Zf (Zg ?_)
  by_cases h2 : (i : Nat) < 4
  refine Zk (vx := Iv (i : Nat)) (vy := Iv 4) rfl rfl (.bool true) rfl rfl (Zcq (by omega)) ?_
  refine Za (Zb (Zf (Zz rfl (Z2 (Zb (Zf (Z9 (Zf (Zg (Ze rfl rfl (Iv (i : Nat)) rfl ?_))))))))))
  refine Zbf (b := 3) (o := 0) (j := i) (m := 4) (c := 4) (sz := 1) (i := (i : Nat)) (k := .i64) rfl rfl rfl rfl rfl (by omega) (by omega) (by omega) ?_
  refine Zl (p := pt 3 i) (v := Iv (([c.region, c.epoch, c.node, c.size]).getD i default)) rfl rfl rfl (Z1p (m := 1) Ztk (l := [c.region, c.epoch, c.node, c.size]) (i := i) rfl rfl rfl rfl (by have : ([c.region, c.epoch, c.node, c.size]).length = 4 := rfl; omega) (by omega) rfl rfl) ?_
  refine Zc rfl rfl (Iv (i : Nat)) rfl (Zc rfl rfl (Iv (([c.region, c.epoch, c.node, c.size]).getD i default)) rfl (Za (Zb ?_)))
  have hx := Zyt hc i (by omega)
  refine Zg (Ze rfl rfl (Iv (i : Nat)) rfl ?_)
  refine Zk (vx := Iv (i : Nat)) (vy := Iv 1) rfl rfl (Iv ((i : Nat) + 1)) rfl rfl (Zaz (by omega) (by omega) (by omega)) ?_
  refine Ze rfl rfl (Iv (([c.region, c.epoch, c.node, c.size]).getD i default)) rfl ?_
  refine Zct (e := [some (1, 0), some (2, 0)]) (nid := 0) (Zlt (G := G) acc i ((i : Nat) + 1) (([c.region, c.epoch, c.node, c.size]).getD i default) ha (by omega) (by omega) (by omega)) (vals := [pt 1 0, Iv ((i : Nat) + 1), Iv (([c.region, c.epoch, c.node, c.size]).getD i default)]) (v := .tuple #[]) (H' := [bxB 36 (Zee c), rfB (slv 2 0 (i + 1) (i + 1)), rwB cFd (acc ++ [(⟨(i : Nat) + 1, (Zr (([c.region, c.epoch, c.node, c.size]).getD i default)).1⟩ : Field)]), rwB Ztk [c.region, c.epoch, c.node, c.size], hole]) rfl rfl rfl rfl rfl rfl ⟨⟨⟨rfl, rfl⟩, rfl, rfl, trivial⟩, ⟨(Zau rfl rfl rfl rfl), (Zau rfl rfl rfl rfl), trivial⟩, rfl, rfl, rfl, Nat.le_refl _⟩ (by kernel_rfl) rfl (by kernel_rfl) ?_
  refine Za (Zab (Zb (Zg ?_)))
  refine Zk (vx := Iv (i : Nat)) (vy := Iv 1) rfl rfl (Iv ((i : Nat) + 1)) rfl rfl (Zaz (by omega) (by omega) (by omega)) ?_
  refine Ze rfl rfl (Iv ((i : Nat) + 1)) rfl (Za ?_)
  refine Zas ⟨((i + 1), (acc ++ [(⟨(i : Nat) + 1, (Zr (([c.region, c.epoch, c.node, c.size]).getD i default)).1⟩ : Field)])), ⟨by dsimp only; rw [hR]; exact Ztg c i (by omega), by dsimp only; omega, by rw [List.length_append, ha]; rfl⟩, by show 4 - (i + 1) < 4 - i; omega, ?_⟩
  refine Zal (n := 4) rfl ?_ (by kernel_rfl) (by kernel_rfl)
  repeat (first | exact trivial | refine ⟨.inl rfl, ?_⟩ | refine ⟨.inr ⟨rfl, rfl⟩, ?_⟩ | refine ⟨.inr ⟨congrArg (Value.int .i64) (by first | omega | (dsimp only; omega)), rfl⟩, ?_⟩)
  refine Zk (vx := Iv (i : Nat)) (vy := Iv 4) rfl rfl (.bool false) rfl rfl (Zcj (by omega)) ?_
  refine Za (Zb (Zf (Zv rfl (Zbh (Zar (Za0 (Zaw rfl (Zb (Zf ?_)))))))))
  have hi4 : i = 4 := by omega
  refine Zg ?_
  refine Zi (b := 0) (o := 0) (n := 4) (o' := 4) rfl rfl rfl rfl rfl ?_
  refine Zdd (p := pt 0 4) (vl := none) (vh := none) (v := slv 0 4 32 32) rfl rfl rfl rfl rfl rfl ?_
  refine Zfm (p := slv 0 4 32 32) (v := .string (Zn (dgL c.root))) rfl rfl rfl (Zd9 (l := (dgL c.root)) rfl rfl rfl rfl (of_decide_eq_true (by kernel_rfl)) (by kernel_rfl)) ?_
  refine Zct (e := [some (1, 0), some (2, 0)]) (nid := 0) (Zku (G := G) acc i 5 (Zn (dgL c.root)) ha (by omega)) (vals := [pt 1 0, Iv 5, .string (Zn (dgL c.root))]) (v := .tuple #[]) (H' := [bxB 36 (Zee c), rfB (slv 2 0 (i + 1) (i + 1)), rwB cFd (acc ++ [(⟨5, (Zn (dgL c.root))⟩ : Field)]), rwB Ztk [c.region, c.epoch, c.node, c.size], hole]) rfl rfl rfl rfl rfl rfl ⟨⟨⟨rfl, rfl⟩, rfl, rfl, trivial⟩, ⟨(Zau rfl rfl rfl rfl), (Zau rfl rfl rfl rfl), trivial⟩, rfl, rfl, rfl, Nat.le_refl _⟩ (by kernel_rfl) rfl (by kernel_rfl) ?_
  refine Za (Zb (Zf (Zg ?_)))
  refine Zl (p := pt 1 0) (v := slv 2 0 (i + 1) (i + 1)) rfl rfl rfl rfl ?_
  refine Z4 (e := [some (2, 0)]) (nid := 4) (Zgc (G := G) (acc ++ [(⟨5, (Zn (dgL c.root))⟩ : Field)]) (i + 1) (i + 1) (by rw [List.length_append, ha]; rfl) (by omega) (by omega)) (vals := [slv 2 0 (i + 1) (i + 1)]) (v := .tuple #[slv 4 0 ((Z8 (acc ++ [(⟨5, (Zn (dgL c.root))⟩ : Field)]) 0 []).1.length) ((Z8 (acc ++ [(⟨5, (Zn (dgL c.root))⟩ : Field)]) 0 []).1.length), Iv ((Z8 (acc ++ [(⟨5, (Zn (dgL c.root))⟩ : Field)]) 0 []).2)]) (H' := [bxB 36 (Zee c), rfB (slv 2 0 (i + 1) (i + 1)), rwB cFd (acc ++ [(⟨5, (Zn (dgL c.root))⟩ : Field)]), rwB Ztk [c.region, c.epoch, c.node, c.size], Zaq ((Z8 (acc ++ [(⟨5, (Zn (dgL c.root))⟩ : Field)]) 0 []).1)]) rfl rfl rfl rfl rfl rfl rfl ⟨⟨⟨rfl, rfl, rfl, by first | omega | exact Nat.le_refl _, by first | omega | exact Nat.le_refl _⟩, trivial⟩, ⟨(Zgr rfl), trivial⟩, rfl, rfl, rfl⟩ (by kernel_rfl) (by kernel_rfl) ?_
  refine Zp (vs := #[slv 4 0 ((Z8 (acc ++ [(⟨5, (Zn (dgL c.root))⟩ : Field)]) 0 []).1.length) ((Z8 (acc ++ [(⟨5, (Zn (dgL c.root))⟩ : Field)]) 0 []).1.length), Iv ((Z8 (acc ++ [(⟨5, (Zn (dgL c.root))⟩ : Field)]) 0 []).2)]) (v := slv 4 0 ((Z8 (acc ++ [(⟨5, (Zn (dgL c.root))⟩ : Field)]) 0 []).1.length) ((Z8 (acc ++ [(⟨5, (Zn (dgL c.root))⟩ : Field)]) 0 []).1.length)) rfl rfl rfl rfl (Zp (vs := #[slv 4 0 ((Z8 (acc ++ [(⟨5, (Zn (dgL c.root))⟩ : Field)]) 0 []).1.length) ((Z8 (acc ++ [(⟨5, (Zn (dgL c.root))⟩ : Field)]) 0 []).1.length), Iv ((Z8 (acc ++ [(⟨5, (Zn (dgL c.root))⟩ : Field)]) 0 []).2)]) (v := Iv ((Z8 (acc ++ [(⟨5, (Zn (dgL c.root))⟩ : Field)]) 0 []).2)) rfl rfl rfl rfl (Zc rfl rfl (slv 4 0 ((Z8 (acc ++ [(⟨5, (Zn (dgL c.root))⟩ : Field)]) 0 []).1.length) ((Z8 (acc ++ [(⟨5, (Zn (dgL c.root))⟩ : Field)]) 0 []).1.length)) rfl (Zc rfl rfl (Iv ((Z8 (acc ++ [(⟨5, (Zn (dgL c.root))⟩ : Field)]) 0 []).2)) rfl (Za (Zb (Zt (Zu ?_)))))))
  have e : acc ++ [(⟨5, Zn (dgL c.root)⟩ : Field)] = Zh9 c := by rw [hR, hi4]; rfl
  have ez := Zzj c
  rw [← e] at ez
  rw [show Zcf c = ((Z8 (acc ++ [(⟨5, Zn (dgL c.root)⟩ : Field)]) 0 []).1, (Z8 (acc ++ [(⟨5, Zn (dgL c.root)⟩ : Field)]) 0 []).2) from by rw [ez, e]; exact if_pos (Zuc (by omega))]
  exact Za7 [4] (v := .tuple #[slv 4 0 ((Z8 (acc ++ [(⟨5, (Zn (dgL c.root))⟩ : Field)]) 0 []).1.length) ((Z8 (acc ++ [(⟨5, (Zn (dgL c.root))⟩ : Field)]) 0 []).1.length), Iv ((Z8 (acc ++ [(⟨5, (Zn (dgL c.root))⟩ : Field)]) 0 []).2)]) rfl (by kernel_rfl) rfl rfl (by decide) (by simp [Za9, Zaq]) ⟨⟨rfl, rfl, rfl, by first | omega | exact Nat.le_refl _ | exact Nat.zero_le _ | (dsimp only; omega), by first | omega | exact Nat.le_refl _ | exact Nat.zero_le _ | (dsimp only; omega)⟩, rfl, trivial⟩
end Go.Flat
