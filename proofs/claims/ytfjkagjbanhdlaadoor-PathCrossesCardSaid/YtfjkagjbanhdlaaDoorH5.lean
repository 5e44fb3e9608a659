/- Walks. -/
import Derived.Test.YtfjkagjbanhdlaaDoorH4
set_option linter.unusedVariables false
set_option linter.unusedSimpArgs false
set_option maxRecDepth 20000
namespace Go.Flat
open Go.Proofs
variable {G : Glob}
def Zzt (key : D) : D := fun i => if i < 32 then key i else 0
def Zpr (c : D) (x : BitVec 8) (j : Nat) : D := fun i => if i < j then c i ^^^ x else c i
theorem Zu8 (c : D) (x : BitVec 8) : Zpr c x 0 = c := by funext i; simp [Zpr]
theorem Zvv {c d : D} {x : BitVec 8} {j : Nat} (h : d = Zpr c x j) : Zh0 d j (d j ^^^ x) = Zpr c x (j + 1) := by
 subst h
 funext i
 unfold Zh0 Zpr
 by_cases hi : i = j
 ·subst hi; simp
 ·simp only [if_neg hi]
  by_cases h1 : i < j
  ·rw [if_pos h1, if_pos (by omega)]
  ·rw [if_neg h1, if_neg (by omega)]
def Za7 (key : D) (x : BitVec 8) : ByteArray := Zr (Zjx 64 (Zpr (Zzt key) x 64))
theorem Zh2 (key : D) (x : BitVec 8) : (Za7 key x).size = 64 := by unfold Za7; rw [Za3, Zj3]
def Zgh (kk : Nat → BitVec 32) (key : D) (s : ByteArray) : D := Zck kk (Zbq [Za7 key 92#8, Zr (dgL (Zck kk (Zbq [Za7 key 54#8, s])))])
def Zv5 (a b : D) : Nat → BitVec 8
  | 0 => 0
  | j + 1 => Zv5 a b j ||| (a j ^^^ b j)
theorem Zyd {a b : D} {all : BitVec 8} {j : Nat} (h : all = Zv5 a b j) : (all ||| (a j ^^^ b j)) = Zv5 a b (j + 1) := by subst h; rfl
theorem Z06 (x y : BitVec 8) : (x ||| y == 0#8) = ((x == 0#8) && (y == 0#8)) := by
 rw [Bool.eq_iff_iff, Bool.and_eq_true, beq_iff_eq, beq_iff_eq, beq_iff_eq]
 constructor
 ·intro h
  constructor
  ·apply BitVec.eq_of_getLsbD_eq; intro i hi; have := congrArg (fun z => z.getLsbD i) h; simp at this ⊢; exact this.1
  ·apply BitVec.eq_of_getLsbD_eq; intro i hi; have := congrArg (fun z => z.getLsbD i) h; simp at this ⊢; exact this.2
 ·rintro ⟨rfl, rfl⟩; rfl
theorem Zyg (x y : BitVec 8) : (x ^^^ y == 0#8) = (x == y) := by
 rw [Bool.eq_iff_iff, beq_iff_eq, beq_iff_eq]
 constructor
 ·intro h; exact BitVec.xor_eq_zero_iff.1 h
 ·rintro rfl; exact BitVec.xor_self
theorem Zs7 (a b : D) : ∀ j, (Zv5 a b j == 0#8) = (List.range j).all fun i => a i == b i
 | 0 => rfl
 | j + 1 => by
  rw [Zv5, Z06, Zyg, Zs7 a b j, List.range_succ, List.all_append]; simp
theorem Zqy (a b : D) : (Zv5 a b 32 == 0#8) = Zcc 32 a b := Zs7 a b 32
def Zbp (kk : Nat → BitVec 32) (master : D) (region node : Int) : D × Int := if (1 ≤ region ∧ region ≤ 5) ∧ (1 ≤ node ∧ node ≤ 3) then (Zgh kk master (Zr [75#8, BitVec.ofInt 8 region, BitVec.ofInt 8 node]), 0) else (dz, 50)
theorem Zl3 (key : D) (u : BitVec 8) : Zaf Tryd.prog G 45 [dgV key, w8 u] [] (.string (Za7 key u)) [] := by
  refine Zbj (fn := Tryd.f45) (nt := 22) rfl rfl rfl rfl ?_
  refine Zai 2 (H' := [hole, hole]) rfl ?_
  refine Zg (Zj ?_)
  refine Zcj (v := dgV key) (b := dgB key) (nid := 0) (H' := [dgB key, hole]) rfl rfl rfl (by kernel_rfl) (by kernel_rfl) ?_
  refine Zd rfl rfl (.string ⟨#[]⟩) rfl (Zb (Zc (Zg (Zj ?_))))
  refine Z2 (b := bxB 64 (Zad w8 64 dz)) (nid := 1) (H' := [dgB key, bxB 64 (Zad w8 64 dz)]) rfl rfl (by kernel_rfl) (by kernel_rfl) ?_
  refine Zb (Zc (Zg ?_))
  refine Zd9 (by kernel_rfl) ?_
  refine Zch (p := pt 1 0) (vl := none) (vh := none) (v := slv 1 0 64 64) rfl rfl rfl rfl rfl rfl ?_
  refine Zch (p := pt 0 0) (vl := none) (vh := none) (v := slv 0 0 32 32) rfl rfl rfl rfl rfl rfl ?_
  refine Z0t (p := slv 1 0 64 64) (q := slv 0 0 32 32) (v := Iv 32) (b := 1) (blk := bxB 64 (Zad w8 64 (Zzt key))) (H' := [dgB key, bxB 64 (Zad w8 64 (Zzt key))]) rfl rfl rfl rfl (by kernel_rfl) (by kernel_rfl) ?_
  refine Zc3 (by kernel_rfl) ?_
  refine Zc (Zg (Zg (Zj (Zf rfl rfl (Iv 0) rfl (Zb (Zc (Z7 ?_)))))))
  refine Zcm (fun x : Nat × D => match x with | (j, d) => [dgV key, w8 u, pt 0 0, dead, .string ⟨#[]⟩, pt 1 0, dead, slv 1 0 64 64, slv 0 0 32 32, Iv 32, Iv (j : Nat)]) (fun x : Nat × D => match x with | (j, d) => [dgB key, bxB 64 (Zad w8 64 d)]) (fun x : Nat × D => match x with | (j, d) => d = Zpr (Zzt key) u j ∧ j ≤ 64) (fun x : Nat × D => match x with | (j, d) => 64 - j) (0, (Zzt key)) ⟨(Zu8 _ _).symm, by omega⟩ ?_ ?_
  · refine Zal (n := 2) rfl ?_ (by kernel_rfl) (by kernel_rfl)
    repeat (first | exact trivial | refine ⟨.inl rfl, ?_⟩ | refine ⟨.inr ⟨rfl, rfl⟩, ?_⟩ | refine ⟨.inr ⟨congrArg (Value.int .i64) (by first | omega | (dsimp only; omega)), rfl⟩, ?_⟩)
  rintro ⟨j, d⟩ ⟨hd, hj⟩
  dsimp only at *
  refine Zg (Zj ?_)
  by_cases h1 : (j : Nat) < 64
  refine Zo (vx := Iv (j : Nat)) (vy := Iv 64) rfl rfl (.bool true) rfl rfl (Zco (by omega)) ?_
  refine Zb (Zc (Zg (Z0 rfl (Z5 (Zc (Zg (Z7 (Zg (Zj (Zf rfl rfl (Iv (j : Nat)) rfl (Zd rfl rfl (Iv (j : Nat)) rfl (Zb (Zc (Zj (Zf rfl rfl (Iv (j : Nat)) rfl ?_)))))))))))))))
  refine Zdz (b := 1) (o := 0) (j := j) (n := 64) (sz := 1) (i := (j : Nat)) (k := .i64) rfl rfl rfl rfl rfl (by omega) (by omega) (by omega) ?_
  refine Zp (p := pt 1 j) (v := w8 (d j)) rfl rfl rfl (Ziw (blk := bxB 64 (Zad w8 64 d)) (i := j) (enc := w8) (n := 64) (w := d) rfl rfl rfl (by omega) fun _ => rfl) ?_
  refine Zf rfl rfl (w8 u) rfl ?_
  refine Zo (vx := w8 (d j)) (vy := w8 u) rfl rfl (w8 ((d j) ^^^ u)) rfl rfl (Z51 (ofI _ _) (ofI _ _)) ?_
  refine Zdz (b := 1) (o := 0) (j := j) (n := 64) (sz := 1) (i := (j : Nat)) (k := .i64) rfl rfl rfl rfl rfl (by omega) (by omega) (by omega) ?_
  refine Zw (p := pt 1 j) (v := w8 ((d j) ^^^ u)) (b := 1) (blk := bxB 64 (Zad w8 64 (Zh0 d j ((d j) ^^^ u)))) (H' := [dgB key, bxB 64 (Zad w8 64 (Zh0 d j ((d j) ^^^ u)))]) rfl rfl rfl (Zhj (blk := bxB 64 (Zad w8 64 d)) (i := j) (enc := w8) (n := 64) (w := d) (x := ((d j) ^^^ u)) rfl rfl rfl rfl rfl (by omega) rfl rfl) (by kernel_rfl) ?_
  refine Zb (Z3 (Zc (Zj ?_)))
  refine Zo (vx := Iv (j : Nat)) (vy := Iv 1) rfl rfl (Iv ((j : Nat) + 1)) rfl rfl (Zav (by omega) (by omega) (by omega)) ?_
  refine Zf rfl rfl (Iv ((j : Nat) + 1)) rfl (Zb ?_)
  refine Zaw ⟨((j + 1), (Zh0 d j ((d j) ^^^ u))), ⟨Zvv hd, by omega⟩, by show 64 - (j + 1) < 64 - j; omega, ?_⟩
  refine Zal (n := 2) rfl ?_ (by kernel_rfl) (by kernel_rfl)
  repeat (first | exact trivial | refine ⟨.inl rfl, ?_⟩ | refine ⟨.inr ⟨rfl, rfl⟩, ?_⟩ | refine ⟨.inr ⟨congrArg (Value.int .i64) (by first | omega | (dsimp only; omega)), rfl⟩, ?_⟩)
  refine Zo (vx := Iv (j : Nat)) (vy := Iv 64) rfl rfl (.bool false) rfl rfl (Zce (by omega)) ?_
  refine Zb (Zc (Zg (Zz rfl (Zbe (Zam (Zau (Zas rfl (Zc (Zg (Zj ?_))))))))))
  refine Zch (p := pt 1 0) (vl := none) (vh := none) (v := slv 1 0 64 64) rfl rfl rfl rfl rfl rfl ?_
  refine Zfr (p := slv 1 0 64 64) (v := .string (Zr (Zjx 64 d))) rfl rfl rfl (Zea (l := (Zjx 64 d)) rfl rfl rfl rfl (of_decide_eq_true (by kernel_rfl)) (by kernel_rfl)) ?_
  refine Zd rfl rfl (.string (Zr (Zjx 64 d))) rfl (Zb (Zc (Zx (Zy ?_))))
  rw [show Za7 key u = Zr (Zjx 64 d) from by rw [hd, show j = 64 by omega]; rfl]
  exact Zq (v := .string (Zr (Zjx 64 d))) rfl rfl rfl (by kernel_rfl) rfl
theorem Zvz (kk : Nat → BitVec 32) (hG : G 0 = some (Zad w32 64 kk)) (key : D) (s : ByteArray) (hs : s.size ≤ 1048576) : Zaf Tryd.prog G 25 [dgV key, .string s] [] (dgV (Zgh kk key s)) [] := by
  refine Zbj (fn := Tryd.f25) (nt := 17) rfl rfl rfl rfl ?_
  refine Zai 5 (H' := [hole, hole, hole, hole, hole]) rfl ?_
  refine Zg (Zj ?_)
  refine Zcj (v := dgV key) (b := dgB key) (nid := 0) (H' := [dgB key, hole, hole, hole, hole]) rfl rfl rfl (by kernel_rfl) (by kernel_rfl) ?_
  refine Z2 (b := dgB dz) (nid := 1) (H' := [dgB key, dgB dz, hole, hole, hole]) rfl rfl (by kernel_rfl) (by kernel_rfl) ?_
  refine Zb (Zc (Zg (Zj ?_)))
  refine Zp (p := pt 0 0) (v := dgV key) rfl rfl rfl (by kernel_rfl) ?_
  refine Zt (Zl3 (G := G) key (54#8)) (vals := [dgV key, w8 (54#8)]) (res' := .string (Za7 key (54#8))) rfl rfl rfl rfl rfl rfl ?_
  refine Zf rfl rfl (.string s) rfl ?_
  refine Zdh (vs := [(0, .string (Za7 key (54#8))), (1, .string s)]) (v := slv 2 0 2 2) (blk := txB [(Za7 key (54#8)), s]) (nid := 2) (H' := [dgB key, dgB dz, txB [(Za7 key (54#8)), s], hole, hole]) rfl rfl rfl (by kernel_rfl) (by kernel_rfl) ?_
  refine Z4 (e := [some (2, 0)]) (nid := 0) (Zto (G := G) kk hG [(Za7 key (54#8)), s] 2 (by simp) (by simp [Zh2, Za3, Zf3]; try omega)) (vals := [slv 2 0 2 2]) (v := dgV (Zck kk (Zbq [(Za7 key (54#8)), s]))) (H' := [dgB key, dgB dz, txB [(Za7 key (54#8)), s], hole, hole]) rfl rfl rfl rfl rfl rfl rfl ⟨⟨⟨rfl, rfl, rfl, by first | omega | exact Nat.le_refl _, by first | omega | exact Nat.le_refl _⟩, trivial⟩, ⟨(Zve rfl), trivial⟩, rfl, rfl, rfl⟩ (by kernel_rfl) (by kernel_rfl) ?_
  refine Z2 (b := dgB dz) (nid := 3) (H' := [dgB key, dgB dz, txB [(Za7 key (54#8)), s], dgB dz, hole]) rfl rfl (by kernel_rfl) (by kernel_rfl) ?_
  refine Zw (p := pt 3 0) (v := dgV (Zck kk (Zbq [(Za7 key (54#8)), s]))) (b := 3) (blk := dgB (Zck kk (Zbq [(Za7 key (54#8)), s]))) (H' := [dgB key, dgB dz, txB [(Za7 key (54#8)), s], dgB (Zck kk (Zbq [(Za7 key (54#8)), s])), hole]) rfl rfl rfl (by kernel_rfl) (by kernel_rfl) ?_
  refine Zb (Zc (Zg ?_))
  refine Zl8 (by kernel_rfl) ?_
  refine Zp (p := pt 0 0) (v := dgV key) rfl rfl rfl (by kernel_rfl) ?_
  refine Zt (Zl3 (G := G) key (92#8)) (vals := [dgV key, w8 (92#8)]) (res' := .string (Za7 key (92#8))) rfl rfl rfl rfl rfl rfl ?_
  refine Zch (p := pt 3 0) (vl := none) (vh := none) (v := slv 3 0 32 32) rfl rfl rfl rfl rfl rfl ?_
  refine Zfr (p := slv 3 0 32 32) (v := .string (Zr (dgL (Zck kk (Zbq [(Za7 key (54#8)), s]))))) rfl rfl rfl (Zea (l := (dgL (Zck kk (Zbq [(Za7 key (54#8)), s])))) rfl rfl rfl rfl (of_decide_eq_true (by kernel_rfl)) (by kernel_rfl)) ?_
  refine Zdh (vs := [(0, .string (Za7 key (92#8))), (1, .string (Zr (dgL (Zck kk (Zbq [(Za7 key (54#8)), s])))))]) (v := slv 4 0 2 2) (blk := txB [(Za7 key (92#8)), (Zr (dgL (Zck kk (Zbq [(Za7 key (54#8)), s]))))]) (nid := 4) (H' := [dgB key, dgB dz, txB [(Za7 key (54#8)), s], dgB (Zck kk (Zbq [(Za7 key (54#8)), s])), txB [(Za7 key (92#8)), (Zr (dgL (Zck kk (Zbq [(Za7 key (54#8)), s]))))]]) rfl rfl rfl (by kernel_rfl) (by kernel_rfl) ?_
  refine Z4 (e := [some (4, 0)]) (nid := 0) (Zto (G := G) kk hG [(Za7 key (92#8)), (Zr (dgL (Zck kk (Zbq [(Za7 key (54#8)), s]))))] 2 (by simp) (by simp [Zh2, Za3, Zf3]; try omega)) (vals := [slv 4 0 2 2]) (v := dgV (Zck kk (Zbq [(Za7 key (92#8)), (Zr (dgL (Zck kk (Zbq [(Za7 key (54#8)), s]))))]))) (H' := [dgB key, dgB dz, txB [(Za7 key (54#8)), s], dgB (Zck kk (Zbq [(Za7 key (54#8)), s])), txB [(Za7 key (92#8)), (Zr (dgL (Zck kk (Zbq [(Za7 key (54#8)), s]))))]]) rfl rfl rfl rfl rfl rfl rfl ⟨⟨⟨rfl, rfl, rfl, by first | omega | exact Nat.le_refl _, by first | omega | exact Nat.le_refl _⟩, trivial⟩, ⟨(Zve rfl), trivial⟩, rfl, rfl, rfl⟩ (by kernel_rfl) (by kernel_rfl) ?_
  refine Zw (p := pt 1 0) (v := dgV (Zck kk (Zbq [(Za7 key (92#8)), (Zr (dgL (Zck kk (Zbq [(Za7 key (54#8)), s]))))]))) (b := 1) (blk := dgB (Zck kk (Zbq [(Za7 key (92#8)), (Zr (dgL (Zck kk (Zbq [(Za7 key (54#8)), s]))))]))) (H' := [dgB key, dgB (Zck kk (Zbq [(Za7 key (92#8)), (Zr (dgL (Zck kk (Zbq [(Za7 key (54#8)), s]))))])), txB [(Za7 key (54#8)), s], dgB (Zck kk (Zbq [(Za7 key (54#8)), s])), txB [(Za7 key (92#8)), (Zr (dgL (Zck kk (Zbq [(Za7 key (54#8)), s]))))]]) rfl rfl rfl (by kernel_rfl) (by kernel_rfl) ?_
  refine Zku (by kernel_rfl) ?_
  refine Zc (Zx (Zy ?_))
  exact Zq (v := dgV (Zck kk (Zbq [(Za7 key (92#8)), (Zr (dgL (Zck kk (Zbq [(Za7 key (54#8)), s]))))]))) (by kernel_rfl) rfl rfl (by kernel_rfl) (Zcs (Zcg fun _ => rfl) rfl)
theorem Z2l (a b : D) : Zaf Tryd.prog G 81 [dgV a, dgV b] [] (.bool (Zcc 32 a b)) [] := by
  refine Zbj (fn := Tryd.f81) (nt := 22) rfl rfl rfl rfl ?_
  refine Zai 2 (H' := [hole, hole]) rfl ?_
  refine Zg (Zj ?_)
  refine Zcj (v := dgV a) (b := dgB a) (nid := 0) (H' := [dgB a, hole]) rfl rfl rfl (by kernel_rfl) (by kernel_rfl) ?_
  refine Zcj (v := dgV b) (b := dgB b) (nid := 1) (H' := [dgB a, dgB b]) rfl rfl rfl (by kernel_rfl) (by kernel_rfl) ?_
  refine Zd rfl rfl (.bool false) rfl (Zb (Zc (Zg (Zj (Zd rfl rfl (w8 (0#8)) rfl (Zb (Zc (Zg (Zg (Zj (Zf rfl rfl (Iv 0) rfl (Zb (Zc (Z7 ?_))))))))))))))
  refine Zcm (fun x : Nat × (BitVec 8) => match x with | (j, all) => [dgV a, dgV b, pt 0 0, pt 1 0, .bool false, w8 all, dead, Iv (j : Nat)]) (fun x : Nat × (BitVec 8) => match x with | (j, all) => [dgB a, dgB b]) (fun x : Nat × (BitVec 8) => match x with | (j, all) => all = Zv5 a b j ∧ j ≤ 32) (fun x : Nat × (BitVec 8) => match x with | (j, all) => 32 - j) (0, 0) ⟨rfl, by omega⟩ ?_ ?_
  · refine Zal (n := 2) rfl ?_ (by kernel_rfl) (by kernel_rfl)
    repeat (first | exact trivial | refine ⟨.inl rfl, ?_⟩ | refine ⟨.inr ⟨rfl, rfl⟩, ?_⟩ | refine ⟨.inr ⟨congrArg (Value.int .i64) (by first | omega | (dsimp only; omega)), rfl⟩, ?_⟩)
  rintro ⟨j, all⟩ ⟨ha, hj⟩
  dsimp only at *
  refine Zg (Zj ?_)
  by_cases h1 : (j : Nat) < 32
  refine Zo (vx := Iv (j : Nat)) (vy := Iv 32) rfl rfl (.bool true) rfl rfl (Zco (by omega)) ?_
  refine Zb (Zc (Zg (Z0 rfl (Z5 (Zc (Zg (Z7 (Zg (Zj (Zf rfl rfl (Iv (j : Nat)) rfl (Zd rfl rfl (Iv (j : Nat)) rfl (Zb (Zc ?_)))))))))))))
  refine Zd9 (by kernel_rfl) ?_
  refine Zf rfl rfl (w8 all) rfl (Zf rfl rfl (Iv (j : Nat)) rfl ?_)
  refine Zdz (b := 0) (o := 0) (j := j) (n := 32) (sz := 1) (i := (j : Nat)) (k := .i64) rfl rfl rfl rfl rfl (by omega) (by omega) (by omega) ?_
  refine Zp (p := pt 0 j) (v := w8 (a j)) rfl rfl rfl (Ziw (blk := dgB a) (i := j) (enc := w8) (n := 32) (w := a) rfl rfl rfl (by omega) fun _ => rfl) ?_
  refine Zf rfl rfl (Iv (j : Nat)) rfl ?_
  refine Zdz (b := 1) (o := 0) (j := j) (n := 32) (sz := 1) (i := (j : Nat)) (k := .i64) rfl rfl rfl rfl rfl (by omega) (by omega) (by omega) ?_
  refine Zp (p := pt 1 j) (v := w8 (b j)) rfl rfl rfl (Ziw (blk := dgB b) (i := j) (enc := w8) (n := 32) (w := b) rfl rfl rfl (by omega) fun _ => rfl) ?_
  refine Zo (vx := w8 (a j)) (vy := w8 (b j)) rfl rfl (w8 ((a j) ^^^ (b j))) rfl rfl (Z51 (ofI _ _) (ofI _ _)) ?_
  refine Zo (vx := w8 all) (vy := w8 ((a j) ^^^ (b j))) rfl rfl (w8 (all ||| ((a j) ^^^ (b j)))) rfl rfl (or8 (ofI _ _) (ofI _ _)) ?_
  refine Zd rfl rfl (w8 (all ||| ((a j) ^^^ (b j)))) rfl ?_
  refine Zc3 (by kernel_rfl) ?_
  refine Z3 (Zc (Zj ?_))
  refine Zo (vx := Iv (j : Nat)) (vy := Iv 1) rfl rfl (Iv ((j : Nat) + 1)) rfl rfl (Zav (by omega) (by omega) (by omega)) ?_
  refine Zf rfl rfl (Iv ((j : Nat) + 1)) rfl (Zb ?_)
  refine Zaw ⟨((j + 1), (all ||| ((a j) ^^^ (b j)))), ⟨Zyd ha, by omega⟩, by show 32 - (j + 1) < 32 - j; omega, ?_⟩
  refine Zal (n := 2) rfl ?_ (by kernel_rfl) (by kernel_rfl)
  repeat (first | exact trivial | refine ⟨.inl rfl, ?_⟩ | refine ⟨.inr ⟨rfl, rfl⟩, ?_⟩ | refine ⟨.inr ⟨congrArg (Value.int .i64) (by first | omega | (dsimp only; omega)), rfl⟩, ?_⟩)
  refine Zo (vx := Iv (j : Nat)) (vy := Iv 32) rfl rfl (.bool false) rfl rfl (Zce (by omega)) ?_
  refine Zb (Zc (Zg (Zz rfl (Zbe (Zam (Zau (Zas rfl (Zc (Zg (Zj (Zf rfl rfl (w8 all) rfl ?_)))))))))))
  rcases Bool.eq_false_or_eq_true (all == 0#8) with h2 | h2
  refine Zo (vx := w8 all) (vy := w8 (0#8)) rfl rfl (.bool true) rfl rfl (Eq.trans Z5b (by rw [h2] <;> rfl)) ?_
  refine Zd rfl rfl (.bool true) rfl (Zb (Zc (Zx (Zy ?_))))
  rw [show Zcc 32 a b = true from by rw [← Zqy, ← show j = 32 by omega, ← ha]; exact h2]
  exact Zq (v := .bool true) rfl rfl rfl (by kernel_rfl) rfl
  refine Zo (vx := w8 all) (vy := w8 (0#8)) rfl rfl (.bool false) rfl rfl (Eq.trans Z5b (by rw [h2] <;> rfl)) ?_
  refine Zd rfl rfl (.bool false) rfl (Zb (Zc (Zx (Zy ?_))))
  rw [show Zcc 32 a b = false from by rw [← Zqy, ← show j = 32 by omega, ← ha]; exact h2]
  exact Zq (v := .bool false) rfl rfl rfl (by kernel_rfl) rfl
theorem Zzg (kk : Nat → BitVec 32) (hG : G 0 = some (Zad w32 64 kk)) (master : D) (region node : Int)  : Zaf Tryd.prog G 24 [dgV master, Iv region, Iv node] [] (.tuple #[dgV (Zbp kk master region node).1, Iv (Zbp kk master region node).2]) [] := by
 refine Zbj (fn := Tryd.f24) (nt := 31) rfl rfl rfl rfl ?_
 refine Zai 3 (H' := [hole, hole, hole]) rfl ?_
 refine Zg (Zj ?_)
 refine Zcj (v := dgV master) (b := dgB master) (nid := 0) (H' := [dgB master, hole, hole]) rfl rfl rfl (by kernel_rfl) (by kernel_rfl) ?_
 refine Z2 (b := dgB dz) (nid := 1) (H' := [dgB master, dgB dz, hole]) rfl rfl (by kernel_rfl) (by kernel_rfl) ?_
 refine Zd rfl rfl (Iv 0) rfl (Zb (Zc (Zg (Zg (Zj (Zf rfl rfl (Iv region) rfl ?_))))))
 by_cases h1 : region < 1
 refine Zo (vx := Iv region) (vy := Iv 1) rfl rfl (.bool true) rfl rfl (Zco (by omega)) ?_
 refine Zf rfl rfl (.bool true) rfl (Zi rfl rfl (Zi rfl rfl (Zm rfl rfl (.bool true) rfl (Zf rfl rfl (.bool true) rfl (Zi rfl rfl (Zi rfl rfl (Zm rfl rfl (.bool true) rfl (Zf rfl rfl (.bool true) rfl (Zi rfl rfl (Zi rfl rfl (Zm rfl rfl (.bool true) rfl (Zb (Zc (Z0 rfl (Zg (Zj ?_))))))))))))))))
 refine Za1 (vs := []) (v := dgV dz) rfl rfl rfl (by kernel_rfl) ?_
 refine Zw (p := pt 1 0) (v := dgV dz) (b := 1) (blk := dgB dz) (H' := [dgB master, dgB dz, hole]) rfl rfl rfl (by kernel_rfl) (by kernel_rfl) ?_
 refine Zd rfl rfl (Iv 50) rfl (Zb (Zc (Zx (Zaa (Zy ?_)))))
 rw [show Zbp kk master region node = (dz, 50) from if_neg (by omega)]
 exact Zq (v := .tuple #[dgV dz, Iv 50]) (by kernel_rfl) rfl rfl (by kernel_rfl) ⟨(Zcs (Zcg fun _ => rfl) rfl), rfl, trivial⟩
 refine Zo (vx := Iv region) (vy := Iv 1) rfl rfl (.bool false) rfl rfl (Zce (by omega)) ?_
 refine Zf rfl rfl (.bool false) rfl (Zf rfl rfl (Iv region) rfl ?_)
 by_cases h2 : 5 < region
 refine Zo (vx := Iv region) (vy := Iv 5) rfl rfl (.bool true) rfl rfl (Zeh (by omega)) ?_
 refine Zm rfl rfl (.bool true) rfl (Zf rfl rfl (.bool true) rfl (Zi rfl rfl (Zi rfl rfl (Zm rfl rfl (.bool true) rfl (Zf rfl rfl (.bool true) rfl (Zi rfl rfl (Zi rfl rfl (Zm rfl rfl (.bool true) rfl (Zb (Zc (Z0 rfl (Zg (Zj ?_)))))))))))))
 refine Za1 (vs := []) (v := dgV dz) rfl rfl rfl (by kernel_rfl) ?_
 refine Zw (p := pt 1 0) (v := dgV dz) (b := 1) (blk := dgB dz) (H' := [dgB master, dgB dz, hole]) rfl rfl rfl (by kernel_rfl) (by kernel_rfl) ?_
 refine Zd rfl rfl (Iv 50) rfl (Zb (Zc (Zx (Zaa (Zy ?_)))))
 rw [show Zbp kk master region node = (dz, 50) from if_neg (by omega)]
 exact Zq (v := .tuple #[dgV dz, Iv 50]) (by kernel_rfl) rfl rfl (by kernel_rfl) ⟨(Zcs (Zcg fun _ => rfl) rfl), rfl, trivial⟩
 refine Zo (vx := Iv region) (vy := Iv 5) rfl rfl (.bool false) rfl rfl (Zek (by omega)) ?_
 refine Zm rfl rfl (.bool false) rfl (Zf rfl rfl (.bool false) rfl (Zf rfl rfl (Iv node) rfl ?_))
 by_cases h3 : node < 1
 refine Zo (vx := Iv node) (vy := Iv 1) rfl rfl (.bool true) rfl rfl (Zco (by omega)) ?_
 refine Zm rfl rfl (.bool true) rfl (Zf rfl rfl (.bool true) rfl (Zi rfl rfl (Zi rfl rfl (Zm rfl rfl (.bool true) rfl (Zb (Zc (Z0 rfl (Zg (Zj ?_)))))))))
 refine Za1 (vs := []) (v := dgV dz) rfl rfl rfl (by kernel_rfl) ?_
 refine Zw (p := pt 1 0) (v := dgV dz) (b := 1) (blk := dgB dz) (H' := [dgB master, dgB dz, hole]) rfl rfl rfl (by kernel_rfl) (by kernel_rfl) ?_
 refine Zd rfl rfl (Iv 50) rfl (Zb (Zc (Zx (Zaa (Zy ?_)))))
 rw [show Zbp kk master region node = (dz, 50) from if_neg (by omega)]
 exact Zq (v := .tuple #[dgV dz, Iv 50]) (by kernel_rfl) rfl rfl (by kernel_rfl) ⟨(Zcs (Zcg fun _ => rfl) rfl), rfl, trivial⟩
 refine Zo (vx := Iv node) (vy := Iv 1) rfl rfl (.bool false) rfl rfl (Zce (by omega)) ?_
 refine Zm rfl rfl (.bool false) rfl (Zf rfl rfl (.bool false) rfl (Zf rfl rfl (Iv node) rfl ?_))
 by_cases h4 : 3 < node
 refine Zo (vx := Iv node) (vy := Iv 3) rfl rfl (.bool true) rfl rfl (Zeh (by omega)) ?_
 refine Zm rfl rfl (.bool true) rfl (Zb (Zc (Z0 rfl (Zg (Zj ?_)))))
 refine Za1 (vs := []) (v := dgV dz) rfl rfl rfl (by kernel_rfl) ?_
 refine Zw (p := pt 1 0) (v := dgV dz) (b := 1) (blk := dgB dz) (H' := [dgB master, dgB dz, hole]) rfl rfl rfl (by kernel_rfl) (by kernel_rfl) ?_
 refine Zd rfl rfl (Iv 50) rfl (Zb (Zc (Zx (Zaa (Zy ?_)))))
 rw [show Zbp kk master region node = (dz, 50) from if_neg (by omega)]
 exact Zq (v := .tuple #[dgV dz, Iv 50]) (by kernel_rfl) rfl rfl (by kernel_rfl) ⟨(Zcs (Zcg fun _ => rfl) rfl), rfl, trivial⟩
 refine Zo (vx := Iv node) (vy := Iv 3) rfl rfl (.bool false) rfl rfl (Zek (by omega)) ?_
 refine Zm rfl rfl (.bool false) rfl (Zb (Zc (Zz rfl (Z5 (Zc (Zg (Zj ?_)))))))
 refine Zp (p := pt 0 0) (v := dgV master) rfl rfl rfl (by kernel_rfl) ?_
 refine Zf rfl rfl (Iv region) rfl ?_
 refine Zdf (w := Iv region) (v := w8 (BitVec.ofInt 8 region)) rfl rfl rfl (Zg1 rfl rfl rfl) ?_
 refine Zf rfl rfl (Iv node) rfl ?_
 refine Zdf (w := Iv node) (v := w8 (BitVec.ofInt 8 node)) rfl rfl rfl (Zg1 rfl rfl rfl) ?_
 refine Zdh (vs := [(0, w8 (75#8)), (1, w8 (BitVec.ofInt 8 region)), (2, w8 (BitVec.ofInt 8 node))]) (v := slv 2 0 3 3) (blk := Zaq [75#8, (BitVec.ofInt 8 region), (BitVec.ofInt 8 node)]) (nid := 2) (H' := [dgB master, dgB dz, Zaq [75#8, (BitVec.ofInt 8 region), (BitVec.ofInt 8 node)]]) rfl rfl rfl (by kernel_rfl) (by kernel_rfl) ?_
 refine Zfr (p := slv 2 0 3 3) (v := .string (Zr [75#8, (BitVec.ofInt 8 region), (BitVec.ofInt 8 node)])) rfl rfl rfl (Zfu rfl rfl rfl rfl rfl (by have := (rfl : _ = 3); omega)) ?_
 refine Zt (Zvz (G := G) kk hG master (Zr [75#8, (BitVec.ofInt 8 region), (BitVec.ofInt 8 node)]) (by simp [Za3])) (vals := [dgV master, .string (Zr [75#8, (BitVec.ofInt 8 region), (BitVec.ofInt 8 node)])]) (res' := dgV (Zgh kk master (Zr [75#8, (BitVec.ofInt 8 region), (BitVec.ofInt 8 node)]))) rfl rfl rfl rfl rfl (by kernel_rfl) ?_
 refine Zw (p := pt 1 0) (v := dgV (Zgh kk master (Zr [75#8, (BitVec.ofInt 8 region), (BitVec.ofInt 8 node)]))) (b := 1) (blk := dgB (Zgh kk master (Zr [75#8, (BitVec.ofInt 8 region), (BitVec.ofInt 8 node)]))) (H' := [dgB master, dgB (Zgh kk master (Zr [75#8, (BitVec.ofInt 8 region), (BitVec.ofInt 8 node)])), Zaq [75#8, (BitVec.ofInt 8 region), (BitVec.ofInt 8 node)]]) rfl rfl rfl (by kernel_rfl) (by kernel_rfl) ?_
 refine Zd rfl rfl (Iv 0) rfl (Zb (Zc (Zx (Zy ?_))))
 rw [show Zbp kk master region node = ((Zgh kk master (Zr [75#8, (BitVec.ofInt 8 region), (BitVec.ofInt 8 node)])), 0) from if_pos (by omega)]
 exact Zq (v := .tuple #[dgV (Zgh kk master (Zr [75#8, (BitVec.ofInt 8 region), (BitVec.ofInt 8 node)])), Iv 0]) (by kernel_rfl) rfl rfl (by kernel_rfl) ⟨(Zcs (Zcg fun _ => rfl) rfl), rfl, trivial⟩
def Zgp (kk : Nat → BitVec 32) (master : D) (region node : Int) (s : ByteArray) (t : D) : Int :=
  if ((Zbp kk master region node).2) ≠ 0 then ((Zbp kk master region node).2) else
  if Zcc 32 (Zgh kk ((Zbp kk master region node).1) s) t = true then 0 else
  72
theorem Z1l (kk : Nat → BitVec 32) (hG : G 0 = some (Zad w32 64 kk)) (master : D) (region node : Int) (s : ByteArray) (t : D) (hs : s.size ≤ 1048576) : Zaf Tryd.prog G 68 [dgV master, Iv region, Iv node, .string s, dgV t] [] (Iv (Zgp kk master region node s t)) [] := by
 refine Zbj (fn := Tryd.f68) (nt := 31) rfl rfl rfl rfl ?_
 refine Zai 3 (H' := [hole, hole, hole]) rfl ?_
 refine Zg (Zj ?_)
 refine Zcj (v := dgV master) (b := dgB master) (nid := 0) (H' := [dgB master, hole, hole]) rfl rfl rfl (by kernel_rfl) (by kernel_rfl) ?_
 refine Zcj (v := dgV t) (b := dgB t) (nid := 1) (H' := [dgB master, dgB t, hole]) rfl rfl rfl (by kernel_rfl) (by kernel_rfl) ?_
 refine Zd rfl rfl (Iv 0) rfl (Zb (Zc (Zg (Zj ?_))))
 refine Zp (p := pt 0 0) (v := dgV master) rfl rfl rfl (by kernel_rfl) ?_
 refine Zf rfl rfl (Iv region) rfl (Zf rfl rfl (Iv node) rfl ?_)
 refine Zt (Zzg (G := G) kk hG master region node) (vals := [dgV master, Iv region, Iv node]) (res' := .tuple #[dgV ((Zbp kk master region node).1), Iv ((Zbp kk master region node).2)]) rfl rfl rfl rfl rfl (by kernel_rfl) ?_
 refine Zf rfl rfl (.tuple #[dgV ((Zbp kk master region node).1), Iv ((Zbp kk master region node).2)]) rfl (Zu (vs := #[dgV ((Zbp kk master region node).1), Iv ((Zbp kk master region node).2)]) (v := dgV ((Zbp kk master region node).1)) rfl rfl rfl rfl (Zu (vs := #[dgV ((Zbp kk master region node).1), Iv ((Zbp kk master region node).2)]) (v := Iv ((Zbp kk master region node).2)) rfl rfl rfl rfl ?_))
 refine Z2 (b := dgB dz) (nid := 2) (H' := [dgB master, dgB t, dgB dz]) rfl rfl (by kernel_rfl) (by kernel_rfl) ?_
 refine Zw (p := pt 2 0) (v := dgV ((Zbp kk master region node).1)) (b := 2) (blk := dgB ((Zbp kk master region node).1)) (H' := [dgB master, dgB t, dgB ((Zbp kk master region node).1)]) rfl rfl rfl (by kernel_rfl) (by kernel_rfl) ?_
 refine Zd rfl rfl (Iv ((Zbp kk master region node).2)) rfl (Zb (Zc (Zg (Z7 (Zg (Zj (Zf rfl rfl (Iv ((Zbp kk master region node).2)) rfl ?_)))))))
 by_cases h1 : ((Zbp kk master region node).2) ≠ 0
 refine Zo (vx := Iv ((Zbp kk master region node).2)) (vy := Iv 0) rfl rfl (.bool true) rfl rfl (Zdr (by omega)) ?_
 refine Zd rfl rfl (.bool true) rfl (Zb (Zc (Z0 rfl (Zg (Zj (Zf rfl rfl (Iv ((Zbp kk master region node).2)) rfl (Zd rfl rfl (Iv ((Zbp kk master region node).2)) rfl (Zb (Zc (Zx (Zc1 (Zaa (Zy ?_)))))))))))))
 rw [show Zgp kk master region node s t = ((Zbp kk master region node).2) from by unfold Zgp; rw [if_pos h1]]
 exact Zq (v := Iv ((Zbp kk master region node).2)) rfl rfl rfl (by kernel_rfl) rfl
 refine Zo (vx := Iv ((Zbp kk master region node).2)) (vy := Iv 0) rfl rfl (.bool false) rfl rfl (Zdb (by omega)) ?_
 refine Zd rfl rfl (.bool false) rfl (Zb (Zc (Zz rfl (Zg ?_))))
 refine Zl8 (by kernel_rfl) ?_
 refine Zp (p := pt 2 0) (v := dgV ((Zbp kk master region node).1)) rfl rfl rfl (by kernel_rfl) ?_
 refine Zf rfl rfl (.string s) rfl ?_
 refine Zt (Zvz (G := G) kk hG ((Zbp kk master region node).1) s hs) (vals := [dgV ((Zbp kk master region node).1), .string s]) (res' := dgV (Zgh kk ((Zbp kk master region node).1) s)) rfl rfl rfl rfl rfl (by kernel_rfl) ?_
 refine Zp (p := pt 1 0) (v := dgV t) rfl rfl rfl (by kernel_rfl) ?_
 refine Zt (Z2l (G := G) (Zgh kk ((Zbp kk master region node).1) s) t) (vals := [dgV (Zgh kk ((Zbp kk master region node).1) s), dgV t]) (res' := .bool (Zcc 32 (Zgh kk ((Zbp kk master region node).1) s) t)) rfl rfl rfl rfl rfl rfl ?_
 rcases Bool.eq_false_or_eq_true (Zcc 32 (Zgh kk ((Zbp kk master region node).1) s) t) with h2 | h2
 refine Ziy (vx := .bool (Zcc 32 (Zgh kk ((Zbp kk master region node).1) s) t)) rfl rfl (.bool false) rfl (Eq.trans Zer (congrArg (fun b => some (Value.bool !b)) h2)) ?_
 refine Zd rfl rfl (.bool false) rfl ?_
 refine Zku (by kernel_rfl) ?_
 refine Zc (Zz rfl (Z5 (Z3 (Zc (Zg (Zj (Zd rfl rfl (Iv 0) rfl (Zb (Zc (Zx (Zy ?_)))))))))))
 rw [show Zgp kk master region node s t = 0 from by unfold Zgp; rw [if_neg h1, if_pos h2]]
 exact Zq (v := Iv 0) rfl rfl rfl (by kernel_rfl) rfl
 refine Ziy (vx := .bool (Zcc 32 (Zgh kk ((Zbp kk master region node).1) s) t)) rfl rfl (.bool true) rfl (Eq.trans Zer (congrArg (fun b => some (Value.bool !b)) h2)) ?_
 refine Zd rfl rfl (.bool true) rfl ?_
 refine Zku (by kernel_rfl) ?_
 refine Zc (Z0 rfl (Zg (Zj (Zd rfl rfl (Iv 72) rfl (Zb (Zc (Zx (Zc1 (Zaa (Zy ?_))))))))))
 rw [show Zgp kk master region node s t = 72 from by unfold Zgp; rw [if_neg h1, if_neg (by rw [h2]; decide)]]
 exact Zq (v := Iv 72) rfl rfl rfl (by kernel_rfl) rfl
end Go.Flat
