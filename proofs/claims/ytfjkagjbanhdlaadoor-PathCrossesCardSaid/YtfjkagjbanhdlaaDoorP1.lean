/- Walks. -/
import Derived.Test.YtfjkagjbanhdlaaDoorE3
import Derived.Test.YtfjkagjbanhdlaaDoorH9
set_option linter.unusedVariables false
set_option linter.unusedSimpArgs false
set_option maxRecDepth 20000
namespace Go.Flat
open Go.Proofs
variable {G : Glob}
def Ztn : Cod Int := ⟨fun z => [.int .i64 z], 1, fun _ => rfl, by decide⟩
def Zip (c : Claim) : List Field := [⟨1, (Zv c.region).1⟩, ⟨2, (Zv c.epoch).1⟩, ⟨3, (Zv c.node).1⟩, ⟨4, (Zv c.size).1⟩, ⟨5, Zr (dgL c.root)⟩]
theorem Ztg (c : Claim) (i : Nat) (hi : i < 4) : (Zip c).take i ++ [⟨((i : Nat) : Int) + 1, (Zv ([c.region, c.epoch, c.node, c.size].getD i default)).1⟩] = (Zip c).take (i + 1) := by
 rcases i with _ | _ | _ | _ | i
 ·rfl
 ·rfl
 ·rfl
 ·rfl
 ·omega
theorem Zyj {c : Claim} (hc : (1 ≤ c.region ∧ c.region ≤ 5) ∧ (1 ≤ c.epoch ∧ c.epoch ≤ 900000000) ∧ (1 ≤ c.node ∧ c.node ≤ 3) ∧ (0 ≤ c.size ∧ c.size ≤ 100000)) (i : Nat) (hi : i < 4) : -9223372036854775808 ≤ [c.region, c.epoch, c.node, c.size].getD i default ∧ [c.region, c.epoch, c.node, c.size].getD i default ≤ 9223372036854775807 := by
 rcases i with _ | _ | _ | _ | i
 ·show _ ≤ c.region ∧ c.region ≤ _; omega
 ·show _ ≤ c.epoch ∧ c.epoch ≤ _; omega
 ·show _ ≤ c.node ∧ c.node ≤ _; omega
 ·show _ ≤ c.size ∧ c.size ≤ _; omega
 ·omega
theorem Zy3 (c : Claim) : (Z8 (Zip c) 0 []).2 = 0 := by
 have h1 := Zbg c.region
 have h2 := Zbg c.epoch
 have h3 := Zbg c.node
 have h4 := Zbg c.size
 have h5 : (Zr (dgL c.root)).size = 32 := by rw [Za3, Zf3]
 have h := Zm0 [(Zv c.region).1, (Zv c.epoch).1, (Zv c.node).1, (Zv c.size).1, Zr (dgL c.root)] 0 [] (by simp) (by
  intro x hx
  simp only [List.mem_cons, List.not_mem_nil, or_false] at hx
  rcases hx with rfl | rfl | rfl | rfl | rfl <;> omega)
 show (Z8 (Zgz 0 [(Zv c.region).1, (Zv c.epoch).1, (Zv c.node).1, (Zv c.size).1, Zr (dgL c.root)]) ((0 : Nat) : Int) []).2 = 0
 rw [h]
def Zcf (c : Claim) : Bs × Int := if Ze1 c then ((Z8 (Zip c) 0 []).1, 0) else ([], 60)
theorem Zt8 (c : Claim) : (Zcf c).1.length ≤ 100 := by
 unfold Zcf
 split
 ·have := Zhy (Zip c) 0 []
  have h1 := Zbg c.region
  have h2 := Zbg c.epoch
  have h3 := Zbg c.node
  have h4 := Zbg c.size
  simp only [Zip, Zm7, Za3, Zf3, List.length_nil] at this
  show (Z8 (Zip c) 0 []).1.length ≤ 100
  simp only [Zip]; omega
 ·exact Nat.zero_le _
theorem Zky (ls : List Field) (n : Nat) (tag : Int) (x : ByteArray) (hn : ls.length = n) (hb : n ≤ 1000) : Zaf Tryd.prog G 53 [pt 0 0, Iv tag, .string x] [rfB (slv 1 0 n n), rwB cFd ls] (.tuple #[]) [rfB (slv 1 0 (n + 1) (n + 1)), rwB cFd (ls ++ [⟨tag, x⟩])] := by
  refine Zbj (fn := Tryd.f53) (nt := 16) rfl rfl rfl rfl ?_
  refine Zai 1 (H' := [rfB (slv 1 0 n n), rwB cFd ls, hole]) rfl ?_
  refine Zj (Zf rfl rfl (pt 0 0) rfl (Zf rfl rfl (pt 0 0) rfl ?_))
  refine Zc6 (p := pt 0 0) (v := pt 0 0) rfl rfl rfl rfl ?_
  refine Zp (p := pt 0 0) (v := slv 1 0 n n) rfl rfl rfl rfl ?_
  refine Zf rfl rfl (Iv tag) rfl (Zf rfl rfl (.string x) rfl ?_)
  refine Za1 (vs := [(0, Iv tag), (1, .string x)]) (v := fdV (⟨tag, x⟩ : Field)) rfl rfl rfl (by kernel_rfl) ?_
  refine Zdh (vs := [(0, fdV (⟨tag, x⟩ : Field))]) (v := slv 2 0 1 1) (blk := rwB cFd [(⟨tag, x⟩ : Field)]) (nid := 2) (H' := [rfB (slv 1 0 n n), rwB cFd ls, rwB cFd [(⟨tag, x⟩ : Field)]]) rfl rfl rfl (by kernel_rfl) (by kernel_rfl) ?_
  have hl2 : (ls ++ [(⟨tag, x⟩ : Field)]).length = n + 1 := by have := hn; have := (rfl : _ = 1); first | (rw [List.length_append]; omega) | (rw [List.length_append, List.length_take]; omega) | (simp; omega) | simp
  refine Zbo (p := slv 1 0 n n) (q := slv 2 0 1 1) (v := slv 1 0 (n + 1) (n + 1)) (b := 1) (blk := rwB cFd (ls ++ [(⟨tag, x⟩ : Field)])) (H' := [rfB (dead), rwB cFd (ls ++ [(⟨tag, x⟩ : Field)]), rwB cFd [(⟨tag, x⟩ : Field)]]) rfl rfl rfl (.inl ⟨_, rfl⟩) rfl rfl (Zfi cFd (by_ := 24) (k := 1) (n' := n + 1) (ms := [(⟨tag, x⟩ : Field)]) (fun _ => rfl) rfl rfl (by kernel_rfl) rfl rfl (by have := hn; omega) (by omega) (by decide) (by omega)) rfl (by kernel_rfl) ?_
  refine Zc6 (p := pt 0 0) (v := pt 0 0) rfl rfl rfl rfl ?_
  refine Zw (p := pt 0 0) (v := slv 1 0 (n + 1) (n + 1)) (b := 0) (blk := rfB (slv 1 0 (n + 1) (n + 1))) (H' := [rfB (slv 1 0 (n + 1) (n + 1)), rwB cFd (ls ++ [(⟨tag, x⟩ : Field)]), rwB cFd [(⟨tag, x⟩ : Field)]]) rfl rfl rfl (by kernel_rfl) (by kernel_rfl) ?_
  refine Zb (Zj0 ?_)
  exact Zq (v := .tuple #[]) rfl rfl rfl (by simp [Za8, rfB, rwB, cFd, Zlo, Zfw]) trivial
theorem Zmf (ls : List Field) (n : Nat) (tag x : Int) (hn : ls.length = n) (hb : n ≤ 1000) (hl : -9223372036854775808 ≤ x) (hh : x ≤ 9223372036854775807) : Zaf Tryd.prog G 52 [pt 0 0, Iv tag, Iv x] [rfB (slv 1 0 n n), rwB cFd ls] (.tuple #[]) [rfB (slv 1 0 (n + 1) (n + 1)), rwB cFd (ls ++ [⟨tag, (Zv x).1⟩])] := by
 refine Zbj (fn := Tryd.f52) (nt := 17) rfl rfl rfl rfl ?_
 refine Zg (Zj (Zf rfl rfl (Iv x) rfl ?_))
 refine Zt (Zrd (G := G) x (by omega) (by omega)) (vals := [Iv x]) (res' := .tuple #[.string ((Zv x).1), Iv ((Zv x).2)]) rfl rfl rfl rfl rfl (by kernel_rfl) ?_
 refine Zf rfl rfl (.tuple #[.string ((Zv x).1), Iv ((Zv x).2)]) rfl (Zu (vs := #[.string ((Zv x).1), Iv ((Zv x).2)]) (v := .string ((Zv x).1)) rfl rfl rfl rfl (Zu (vs := #[.string ((Zv x).1), Iv ((Zv x).2)]) (v := Iv ((Zv x).2)) rfl rfl rfl rfl (Zd rfl rfl (.string ((Zv x).1)) rfl (Zd rfl rfl (Iv ((Zv x).2)) rfl (Zb (Zc (Zj (Zf rfl rfl (pt 0 0) rfl (Zf rfl rfl (Iv tag) rfl (Zf rfl rfl (.string ((Zv x).1)) rfl ?_))))))))))
 refine Zcy (e := [some (0, 0), some (1, 0)]) (nid := 0) (Zky (G := G) ls n tag ((Zv x).1) hn (by omega)) (vals := [pt 0 0, Iv tag, .string ((Zv x).1)]) (v := .tuple #[]) (H' := [rfB (slv 1 0 (n + 1) (n + 1)), rwB cFd (ls ++ [(⟨tag, (Zv x).1⟩ : Field)])]) rfl rfl rfl rfl rfl rfl ⟨⟨⟨rfl, rfl⟩, rfl, rfl, trivial⟩, ⟨(Zax rfl rfl rfl rfl), (Zax rfl rfl rfl rfl), trivial⟩, rfl, rfl, rfl, Nat.le_refl _⟩ (by kernel_rfl) rfl (by kernel_rfl) ?_
 refine Zb (Zj0 ?_)
 exact Zq (v := .tuple #[]) rfl rfl rfl (by simp [Za8, rfB, rwB, cFd, Zlo, Zfw]) trivial
theorem Zgu (fs : List Field) (n c : Nat) (hn : fs.length = n) (hc : n ≤ c) (hb : n ≤ 1000) : Zaf Tryd.prog G 54 [slv 0 0 n c] [rwR cFd fs] (.tuple #[slv 1 0 (Z8 fs 0 []).1.length (Z8 fs 0 []).1.length, Iv (Z8 fs 0 []).2]) [rwR cFd fs, Zaq (Z8 fs 0 []).1] := by
  refine Zbj (fn := Tryd.f54) (nt := 8) rfl rfl rfl rfl ?_
  refine Zai 1 (H' := [rwR cFd fs, hole]) rfl ?_
  refine Zg (Zj (Zd rfl rfl (.slice none 0 0) rfl (Zd rfl rfl (Iv 0) rfl (Zb (Zc (Zg (Zj (Zf rfl rfl (slv 0 0 n c) rfl ?_))))))))
  refine Z4 (e := [some (0, 0)]) (nid := 1) (Z08 (G := G) fs n c hn (by omega) (by omega)) (vals := [slv 0 0 n c]) (v := .tuple #[slv 1 0 ((Z8 fs 0 []).1.length) ((Z8 fs 0 []).1.length), Iv ((Z8 fs 0 []).2)]) (H' := [rwR cFd fs, Zaq ((Z8 fs 0 []).1)]) rfl rfl rfl rfl rfl rfl rfl ⟨⟨⟨rfl, rfl, rfl, by first | omega | exact Nat.le_refl _, by first | omega | exact Nat.le_refl _⟩, trivial⟩, ⟨(Zc0 rfl), trivial⟩, rfl, rfl, rfl⟩ (by kernel_rfl) (by kernel_rfl) ?_
  refine Zu (vs := #[slv 1 0 ((Z8 fs 0 []).1.length) ((Z8 fs 0 []).1.length), Iv ((Z8 fs 0 []).2)]) (v := slv 1 0 ((Z8 fs 0 []).1.length) ((Z8 fs 0 []).1.length)) rfl rfl rfl rfl (Zu (vs := #[slv 1 0 ((Z8 fs 0 []).1.length) ((Z8 fs 0 []).1.length), Iv ((Z8 fs 0 []).2)]) (v := Iv ((Z8 fs 0 []).2)) rfl rfl rfl rfl (Zd rfl rfl (slv 1 0 ((Z8 fs 0 []).1.length) ((Z8 fs 0 []).1.length)) rfl (Zd rfl rfl (Iv ((Z8 fs 0 []).2)) rfl (Zb (Zc (Zx (Zy ?_)))))))
  exact Za2 [0, 1] (v := .tuple #[slv 1 0 ((Z8 fs 0 []).1.length) ((Z8 fs 0 []).1.length), Iv ((Z8 fs 0 []).2)]) rfl (by kernel_rfl) rfl rfl (by decide) (by simp [Za8, rwR, Zaq, cFd]) ⟨⟨rfl, rfl, rfl, by first | omega | exact Nat.le_refl _ | exact Nat.zero_le _ | (dsimp only; omega), by first | omega | exact Nat.le_refl _ | exact Nat.zero_le _ | (dsimp only; omega)⟩, rfl, trivial⟩
theorem Ztd (c : Claim) : Zaf Tryd.prog G 71 [Zet c] [] (.tuple #[slv 0 0 (Zcf c).1.length (Zcf c).1.length, Iv (Zcf c).2]) [Zaq (Zcf c).1] := by
  refine Zbj (fn := Tryd.f71) (nt := 41) rfl rfl rfl rfl ?_
  refine Zai 4 (H' := [hole, hole, hole, hole]) rfl ?_
  refine Zg (Zj ?_)
  refine Zcj (v := Zet c) (b := bxB 36 (Zeg c)) (nid := 0) (H' := [bxB 36 (Zeg c), hole, hole, hole]) rfl rfl rfl (by kernel_rfl) (by kernel_rfl) ?_
  refine Zd rfl rfl (.slice none 0 0) rfl (Zd rfl rfl (Iv 0) rfl (Zb (Zc (Zg (Zg (Zj ?_))))))
  refine Zp (p := pt 0 0) (v := Zet c) rfl rfl rfl (by kernel_rfl) ?_
  refine Zt (Zk7 (G := G) c) (vals := [Zet c]) (res' := Iv (Ze8 c)) rfl rfl rfl rfl rfl rfl ?_
  refine Zd rfl rfl (Iv (Ze8 c)) rfl (Zb (Zc (Zg (Zj (Zf rfl rfl (Iv (Ze8 c)) rfl ?_)))))
  by_cases h1 : (Ze8 c) ≠ 0
  refine Zo (vx := Iv (Ze8 c)) (vy := Iv 0) rfl rfl (.bool true) rfl rfl (Zdr (by omega)) ?_
  refine Zb (Zc (Z0 rfl (Zg (Zj (Zf rfl rfl (Iv (Ze8 c)) rfl (Zd rfl rfl (.slice none 0 0) rfl (Zd rfl rfl (Iv (Ze8 c)) rfl (Zb (Zc ?_)))))))))
  refine Zby (Zbt.nilTmp (i := 2) (b := 1) true 1 rfl (by decide) rfl) ?_
  refine Zx (Zaa (Zy ?_))
  rw [show Zcf c = ([], (Ze8 c)) from if_neg (fun q => Zsu (c := c) (by omega) q) |>.trans (by first | rfl | (unfold Ze8; rw [if_neg (Zsu (c := c) (by omega))]))]
  exact Za2 [1] (v := .tuple #[slv 1 0 0 0, Iv (Ze8 c)]) rfl (by kernel_rfl) rfl rfl (by decide) (by simp [Za8, Zaq]) ⟨⟨rfl, rfl, rfl, by first | omega | exact Nat.le_refl _ | exact Nat.zero_le _ | (dsimp only; omega), by first | omega | exact Nat.le_refl _ | exact Nat.zero_le _ | (dsimp only; omega)⟩, rfl, trivial⟩
  refine Zo (vx := Iv (Ze8 c)) (vy := Iv 0) rfl rfl (.bool false) rfl rfl (Zdb (by omega)) ?_
  refine Zb (Zc (Zz rfl (Z5 (Zc (Zg (Zj ?_))))))
  refine Z2 (b := rfB (.slice none 0 0)) (nid := 1) (H' := [bxB 36 (Zeg c), rfB (.slice none 0 0), hole, hole]) rfl rfl (by kernel_rfl) (by kernel_rfl) ?_
  refine Zb (Zc (Zg (Zg ?_)))
  have hc := Zu4 (c := c) (by omega)
  unfold Ze1 at hc
  refine Zby (Zbt.nilCell (k := 1) (j := 0) (b := 2) true 2 rfl (by decide) rfl (by show 0 < 1; decide) rfl rfl) ?_
  refine Zj ?_
  refine Zn (b := 0) (o := 0) (n := 0) (o' := 0) rfl rfl rfl rfl rfl ?_
  refine Zp (p := pt 0 0) (v := Iv c.region) rfl rfl rfl (by kernel_rfl) ?_
  refine Zn (b := 0) (o := 0) (n := 1) (o' := 1) rfl rfl rfl rfl rfl ?_
  refine Zp (p := pt 0 1) (v := Iv c.epoch) rfl rfl rfl (by kernel_rfl) ?_
  refine Zn (b := 0) (o := 0) (n := 2) (o' := 2) rfl rfl rfl rfl rfl ?_
  refine Zp (p := pt 0 2) (v := Iv c.node) rfl rfl rfl (by kernel_rfl) ?_
  refine Zn (b := 0) (o := 0) (n := 3) (o' := 3) rfl rfl rfl rfl rfl ?_
  refine Zp (p := pt 0 3) (v := Iv c.size) rfl rfl rfl (by kernel_rfl) ?_
  refine Zdh (vs := [(0, Iv c.region), (1, Iv c.epoch), (2, Iv c.node), (3, Iv c.size)]) (v := slv 3 0 4 4) (blk := rwB Ztn [c.region, c.epoch, c.node, c.size]) (nid := 3) (H' := [bxB 36 (Zeg c), rfB (slv 2 0 0 0), rwB cFd [], rwB Ztn [c.region, c.epoch, c.node, c.size]]) rfl rfl rfl (by kernel_rfl) (by kernel_rfl) ?_
  refine Zbl (p := slv 3 0 4 4) (v := Iv 4) rfl rfl rfl rfl ?_
  refine Zf rfl rfl (Iv 0) rfl (Zb (Zc (Z7 ?_)))
  refine Zcm (fun x : Nat × (List Field) => match x with | (i, acc) => [Zet c, pt 0 0, .slice none 0 0, Iv 0, Iv (Ze8 c), pt 1 0, dead, dead, Zet c, Iv (Ze8 c), Iv (Ze8 c), .bool false, dead, pt 0 0, Iv c.region, pt 0 1, Iv c.epoch, pt 0 2, Iv c.node, pt 0 3, Iv c.size, slv 3 0 4 4, Iv 4, Iv (i : Nat)]) (fun x : Nat × (List Field) => match x with | (i, acc) => [bxB 36 (Zeg c), rfB (slv 2 0 i i), rwB cFd acc, rwB Ztn [c.region, c.epoch, c.node, c.size]]) (fun x : Nat × (List Field) => match x with | (i, acc) => acc = (Zip c).take i ∧ i ≤ 4 ∧ acc.length = i) (fun x : Nat × (List Field) => match x with | (i, acc) => 4 - i) (0, []) ⟨rfl, by omega, rfl⟩ ?_ ?_
  · refine Zal (n := 4) rfl ?_ (by kernel_rfl) (by kernel_rfl)
    repeat (first | exact trivial | refine ⟨.inl rfl, ?_⟩ | refine ⟨.inr ⟨rfl, rfl⟩, ?_⟩ | refine ⟨.inr ⟨congrArg (Value.int .i64) (by first | omega | (dsimp only; omega)), rfl⟩, ?_⟩)
  rintro ⟨i, acc⟩ ⟨hR, hi, ha⟩
  dsimp only at *
  refine Zai 1 (H' := [bxB 36 (Zeg c), rfB (slv 2 0 i i), rwB cFd acc, rwB Ztn [c.region, c.epoch, c.node, c.size], hole]) rfl ?_
  refine Zg (Zj ?_)
  by_cases h2 : (i : Nat) < 4
  refine Zo (vx := Iv (i : Nat)) (vy := Iv 4) rfl rfl (.bool true) rfl rfl (Zco (by omega)) ?_
  refine Zb (Zc (Zg (Z0 rfl (Z5 (Zc (Zg (Z7 (Zg (Zj (Zf rfl rfl (Iv (i : Nat)) rfl ?_))))))))))
  refine Zba (b := 3) (o := 0) (j := i) (m := 4) (c := 4) (sz := 1) (i := (i : Nat)) (k := .i64) rfl rfl rfl rfl rfl (by omega) (by omega) (by omega) ?_
  refine Zp (p := pt 3 i) (v := Iv (([c.region, c.epoch, c.node, c.size]).getD i default)) rfl rfl rfl (Zzs (m := 1) Ztn (l := [c.region, c.epoch, c.node, c.size]) (i := i) rfl rfl rfl rfl (by have : ([c.region, c.epoch, c.node, c.size]).length = 4 := rfl; omega) (by omega) rfl rfl) ?_
  refine Zd rfl rfl (Iv (i : Nat)) rfl (Zd rfl rfl (Iv (([c.region, c.epoch, c.node, c.size]).getD i default)) rfl (Zb (Zc ?_)))
  have hx := Zyj hc i (by omega)
  refine Zj (Zf rfl rfl (Iv (i : Nat)) rfl ?_)
  refine Zo (vx := Iv (i : Nat)) (vy := Iv 1) rfl rfl (Iv ((i : Nat) + 1)) rfl rfl (Zav (by omega) (by omega) (by omega)) ?_
  refine Zf rfl rfl (Iv (([c.region, c.epoch, c.node, c.size]).getD i default)) rfl ?_
  refine Zcy (e := [some (1, 0), some (2, 0)]) (nid := 0) (Zmf (G := G) acc i ((i : Nat) + 1) (([c.region, c.epoch, c.node, c.size]).getD i default) ha (by omega) (by omega) (by omega)) (vals := [pt 1 0, Iv ((i : Nat) + 1), Iv (([c.region, c.epoch, c.node, c.size]).getD i default)]) (v := .tuple #[]) (H' := [bxB 36 (Zeg c), rfB (slv 2 0 (i + 1) (i + 1)), rwB cFd (acc ++ [(⟨(i : Nat) + 1, (Zv (([c.region, c.epoch, c.node, c.size]).getD i default)).1⟩ : Field)]), rwB Ztn [c.region, c.epoch, c.node, c.size], hole]) rfl rfl rfl rfl rfl rfl ⟨⟨⟨rfl, rfl⟩, rfl, rfl, trivial⟩, ⟨(Zax rfl rfl rfl rfl), (Zax rfl rfl rfl rfl), trivial⟩, rfl, rfl, rfl, Nat.le_refl _⟩ (by kernel_rfl) rfl (by kernel_rfl) ?_
  refine Zb (Z3 (Zc (Zj ?_)))
  refine Zo (vx := Iv (i : Nat)) (vy := Iv 1) rfl rfl (Iv ((i : Nat) + 1)) rfl rfl (Zav (by omega) (by omega) (by omega)) ?_
  refine Zf rfl rfl (Iv ((i : Nat) + 1)) rfl (Zb ?_)
  refine Zaw ⟨((i + 1), (acc ++ [(⟨(i : Nat) + 1, (Zv (([c.region, c.epoch, c.node, c.size]).getD i default)).1⟩ : Field)])), ⟨by dsimp only; rw [hR]; exact Ztg c i (by omega), by dsimp only; omega, by rw [List.length_append, ha]; rfl⟩, by show 4 - (i + 1) < 4 - i; omega, ?_⟩
  refine Zal (n := 4) rfl ?_ (by kernel_rfl) (by kernel_rfl)
  repeat (first | exact trivial | refine ⟨.inl rfl, ?_⟩ | refine ⟨.inr ⟨rfl, rfl⟩, ?_⟩ | refine ⟨.inr ⟨congrArg (Value.int .i64) (by first | omega | (dsimp only; omega)), rfl⟩, ?_⟩)
  refine Zo (vx := Iv (i : Nat)) (vy := Iv 4) rfl rfl (.bool false) rfl rfl (Zce (by omega)) ?_
  refine Zb (Zc (Zg (Zz rfl (Zbe (Zam (Zau (Zas rfl (Zc (Zg ?_)))))))))
  have hi4 : i = 4 := by omega
  refine Zj ?_
  refine Zn (b := 0) (o := 0) (n := 4) (o' := 4) rfl rfl rfl rfl rfl ?_
  refine Zch (p := pt 0 4) (vl := none) (vh := none) (v := slv 0 4 32 32) rfl rfl rfl rfl rfl rfl ?_
  refine Zfr (p := slv 0 4 32 32) (v := .string (Zr (dgL c.root))) rfl rfl rfl (Zea (l := (dgL c.root)) rfl rfl rfl rfl (of_decide_eq_true (by kernel_rfl)) (by kernel_rfl)) ?_
  refine Zcy (e := [some (1, 0), some (2, 0)]) (nid := 0) (Zky (G := G) acc i 5 (Zr (dgL c.root)) ha (by omega)) (vals := [pt 1 0, Iv 5, .string (Zr (dgL c.root))]) (v := .tuple #[]) (H' := [bxB 36 (Zeg c), rfB (slv 2 0 (i + 1) (i + 1)), rwB cFd (acc ++ [(⟨5, (Zr (dgL c.root))⟩ : Field)]), rwB Ztn [c.region, c.epoch, c.node, c.size], hole]) rfl rfl rfl rfl rfl rfl ⟨⟨⟨rfl, rfl⟩, rfl, rfl, trivial⟩, ⟨(Zax rfl rfl rfl rfl), (Zax rfl rfl rfl rfl), trivial⟩, rfl, rfl, rfl, Nat.le_refl _⟩ (by kernel_rfl) rfl (by kernel_rfl) ?_
  refine Zb (Zc (Zg (Zj ?_)))
  refine Zp (p := pt 1 0) (v := slv 2 0 (i + 1) (i + 1)) rfl rfl rfl rfl ?_
  refine Z4 (e := [some (2, 0)]) (nid := 4) (Zgu (G := G) (acc ++ [(⟨5, (Zr (dgL c.root))⟩ : Field)]) (i + 1) (i + 1) (by rw [List.length_append, ha]; rfl) (by omega) (by omega)) (vals := [slv 2 0 (i + 1) (i + 1)]) (v := .tuple #[slv 4 0 ((Z8 (acc ++ [(⟨5, (Zr (dgL c.root))⟩ : Field)]) 0 []).1.length) ((Z8 (acc ++ [(⟨5, (Zr (dgL c.root))⟩ : Field)]) 0 []).1.length), Iv ((Z8 (acc ++ [(⟨5, (Zr (dgL c.root))⟩ : Field)]) 0 []).2)]) (H' := [bxB 36 (Zeg c), rfB (slv 2 0 (i + 1) (i + 1)), rwB cFd (acc ++ [(⟨5, (Zr (dgL c.root))⟩ : Field)]), rwB Ztn [c.region, c.epoch, c.node, c.size], Zaq ((Z8 (acc ++ [(⟨5, (Zr (dgL c.root))⟩ : Field)]) 0 []).1)]) rfl rfl rfl rfl rfl rfl rfl ⟨⟨⟨rfl, rfl, rfl, by first | omega | exact Nat.le_refl _, by first | omega | exact Nat.le_refl _⟩, trivial⟩, ⟨(Ze9 rfl), trivial⟩, rfl, rfl, rfl⟩ (by kernel_rfl) (by kernel_rfl) ?_
  refine Zu (vs := #[slv 4 0 ((Z8 (acc ++ [(⟨5, (Zr (dgL c.root))⟩ : Field)]) 0 []).1.length) ((Z8 (acc ++ [(⟨5, (Zr (dgL c.root))⟩ : Field)]) 0 []).1.length), Iv ((Z8 (acc ++ [(⟨5, (Zr (dgL c.root))⟩ : Field)]) 0 []).2)]) (v := slv 4 0 ((Z8 (acc ++ [(⟨5, (Zr (dgL c.root))⟩ : Field)]) 0 []).1.length) ((Z8 (acc ++ [(⟨5, (Zr (dgL c.root))⟩ : Field)]) 0 []).1.length)) rfl rfl rfl rfl (Zu (vs := #[slv 4 0 ((Z8 (acc ++ [(⟨5, (Zr (dgL c.root))⟩ : Field)]) 0 []).1.length) ((Z8 (acc ++ [(⟨5, (Zr (dgL c.root))⟩ : Field)]) 0 []).1.length), Iv ((Z8 (acc ++ [(⟨5, (Zr (dgL c.root))⟩ : Field)]) 0 []).2)]) (v := Iv ((Z8 (acc ++ [(⟨5, (Zr (dgL c.root))⟩ : Field)]) 0 []).2)) rfl rfl rfl rfl (Zd rfl rfl (slv 4 0 ((Z8 (acc ++ [(⟨5, (Zr (dgL c.root))⟩ : Field)]) 0 []).1.length) ((Z8 (acc ++ [(⟨5, (Zr (dgL c.root))⟩ : Field)]) 0 []).1.length)) rfl (Zd rfl rfl (Iv ((Z8 (acc ++ [(⟨5, (Zr (dgL c.root))⟩ : Field)]) 0 []).2)) rfl (Zb (Zc (Zx (Zy ?_)))))))
  have e : acc ++ [(⟨5, Zr (dgL c.root)⟩ : Field)] = Zip c := by rw [hR, hi4]; rfl
  have ez := Zy3 c
  rw [← e] at ez
  rw [show Zcf c = ((Z8 (acc ++ [(⟨5, Zr (dgL c.root)⟩ : Field)]) 0 []).1, (Z8 (acc ++ [(⟨5, Zr (dgL c.root)⟩ : Field)]) 0 []).2) from by rw [ez, e]; exact if_pos (Zu4 (by omega))]
  exact Za2 [4] (v := .tuple #[slv 4 0 ((Z8 (acc ++ [(⟨5, (Zr (dgL c.root))⟩ : Field)]) 0 []).1.length) ((Z8 (acc ++ [(⟨5, (Zr (dgL c.root))⟩ : Field)]) 0 []).1.length), Iv ((Z8 (acc ++ [(⟨5, (Zr (dgL c.root))⟩ : Field)]) 0 []).2)]) rfl (by kernel_rfl) rfl rfl (by decide) (by simp [Za8, Zaq]) ⟨⟨rfl, rfl, rfl, by first | omega | exact Nat.le_refl _ | exact Nat.zero_le _ | (dsimp only; omega), by first | omega | exact Nat.le_refl _ | exact Nat.zero_le _ | (dsimp only; omega)⟩, rfl, trivial⟩
end Go.Flat
