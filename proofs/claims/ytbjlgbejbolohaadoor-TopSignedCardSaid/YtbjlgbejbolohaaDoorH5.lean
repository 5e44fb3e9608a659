/- Walks. -/
import Derived.Test.YtbjlgbejbolohaaDoorH4
set_option linter.unusedVariables false
set_option linter.unusedSimpArgs false
set_option maxRecDepth 20000
namespace Go.Flat
open Go.Proofs
variable {G : Glob}
def Z10 (key : D) : D := fun i => if i < 32 then key i else 0
def Zqe (c : D) (x : BitVec 8) (j : Nat) : D := fun i => if i < j then c i ^^^ x else c i
theorem Zw0 (c : D) (x : BitVec 8) : Zqe c x 0 = c := by funext i; simp [Zqe]
theorem Zwz {c d : D} {x : BitVec 8} {j : Nat} (h : d = Zqe c x j) : Ze9 d j (d j ^^^ x) = Zqe c x (j + 1) := by
 subst h
 funext i
 unfold Ze9 Zqe
 by_cases hi : i = j
 ·subst hi; simp
 ·simp only [if_neg hi]
  by_cases h1 : i < j
  ·rw [if_pos h1, if_pos (by omega)]
  ·rw [if_neg h1, if_neg (by omega)]
def Zax (key : D) (x : BitVec 8) : ByteArray := Zs (Zhm 64 (Zqe (Z10 key) x 64))
theorem Zhu (key : D) (x : BitVec 8) : (Zax key x).size = 64 := by unfold Zax; rw [Za3, Zi1]
def Zf6 (kk : Nat → BitVec 32) (key : D) (s : ByteArray) : D := Zbb kk (Zbn [Zax key 92#8, Zs (dgL (Zbb kk (Zbn [Zax key 54#8, s])))])
def Zvg (a b : D) : Nat → BitVec 8
  | 0 => 0
  | j + 1 => Zvg a b j ||| (a j ^^^ b j)
theorem Zym {a b : D} {all : BitVec 8} {j : Nat} (h : all = Zvg a b j) : (all ||| (a j ^^^ b j)) = Zvg a b (j + 1) := by subst h; rfl
theorem Z1z (x y : BitVec 8) : (x ||| y == 0#8) = ((x == 0#8) && (y == 0#8)) := by
 rw [Bool.eq_iff_iff, Bool.and_eq_true, beq_iff_eq, beq_iff_eq, beq_iff_eq]
 constructor
 ·intro h
  constructor
  ·apply BitVec.eq_of_getLsbD_eq; intro i hi; have := congrArg (fun z => z.getLsbD i) h; simp at this ⊢; exact this.1
  ·apply BitVec.eq_of_getLsbD_eq; intro i hi; have := congrArg (fun z => z.getLsbD i) h; simp at this ⊢; exact this.2
 ·rintro ⟨rfl, rfl⟩; rfl
theorem Z0a (x y : BitVec 8) : (x ^^^ y == 0#8) = (x == y) := by
 rw [Bool.eq_iff_iff, beq_iff_eq, beq_iff_eq]
 constructor
 ·intro h; exact BitVec.xor_eq_zero_iff.1 h
 ·rintro rfl; exact BitVec.xor_self
theorem Ztd (a b : D) : ∀ j, (Zvg a b j == 0#8) = (List.range j).all fun i => a i == b i
 | 0 => rfl
 | j + 1 => by
  rw [Zvg, Z1z, Z0a, Ztd a b j, List.range_succ, List.all_append]; simp
theorem Zqw (a b : D) : (Zvg a b 32 == 0#8) = Zbm 32 a b := Ztd a b 32
def Zbq (kk : Nat → BitVec 32) (master : D) (region node : Int) : D × Int := if (1 ≤ region ∧ region ≤ 5) ∧ (1 ≤ node ∧ node ≤ 3) then (Zf6 kk master (Zs [75#8, BitVec.ofInt 8 region, BitVec.ofInt 8 node]), 0) else (dz, 50)
theorem Zls (key : D) (u : BitVec 8) : Zac Tryd.prog G 51 [dgV key, w8 u] [] (.string (Zax key u)) [] := by
  refine Zb8 (fn := Tryd.f51) (nt := 22) rfl rfl rfl rfl ?_
  refine Zah 2 (H' := [hole, hole]) rfl ?_
  refine Ze (Zf ?_)
  refine Zdc (v := dgV key) (b := dgB key) (nid := 0) (H' := [dgB key, hole]) rfl rfl rfl (by kernel_rfl) (by kernel_rfl) ?_
  refine Zc rfl rfl (.string ⟨#[]⟩) rfl (Za (Zb (Ze (Zf ?_))))
  refine Zq (b := bxB 64 (Zaa w8 64 dz)) (nid := 1) (H' := [dgB key, bxB 64 (Zaa w8 64 dz)]) rfl rfl (by kernel_rfl) (by kernel_rfl) ?_
  refine Za (Zb (Ze ?_))
  refine Zc4 (by kernel_rfl) ?_
  refine Zci (p := pt 1 0) (vl := none) (vh := none) (v := slv 1 0 64 64) rfl rfl rfl rfl rfl rfl ?_
  refine Zci (p := pt 0 0) (vl := none) (vh := none) (v := slv 0 0 32 32) rfl rfl rfl rfl rfl rfl ?_
  refine Zwb (p := slv 1 0 64 64) (q := slv 0 0 32 32) (v := Iv 32) (b := 1) (blk := bxB 64 (Zaa w8 64 (Z10 key))) (H' := [dgB key, bxB 64 (Zaa w8 64 (Z10 key))]) rfl rfl rfl rfl (by kernel_rfl) (by kernel_rfl) ?_
  refine Zca (by kernel_rfl) ?_
  refine Zb (Ze (Ze (Zf (Zd rfl rfl (Iv 0) rfl (Za (Zb (Z1 ?_)))))))
  refine Zby (fun x : Nat × D => match x with | (j, d) => [dgV key, w8 u, pt 0 0, dead, .string ⟨#[]⟩, pt 1 0, dead, slv 1 0 64 64, slv 0 0 32 32, Iv 32, Iv (j : Nat)]) (fun x : Nat × D => match x with | (j, d) => [dgB key, bxB 64 (Zaa w8 64 d)]) (fun x : Nat × D => match x with | (j, d) => d = Zqe (Z10 key) u j ∧ j ≤ 64) (fun x : Nat × D => match x with | (j, d) => 64 - j) (0, (Z10 key)) ⟨(Zw0 _ _).symm, by omega⟩ ?_ ?_
  · refine Z2 (n := 2) rfl ?_ (by kernel_rfl) (by kernel_rfl)
    repeat (first | exact trivial | refine ⟨.inl rfl, ?_⟩ | refine ⟨.inr ⟨rfl, rfl⟩, ?_⟩ | refine ⟨.inr ⟨congrArg (Value.int .i64) (by first | omega | (dsimp only; omega)), rfl⟩, ?_⟩)
  rintro ⟨j, d⟩ ⟨hd, hj⟩
  dsimp only at *
  refine Ze (Zf ?_)
  by_cases h1 : (j : Nat) < 64
  refine Zi (vx := Iv (j : Nat)) (vy := Iv 64) rfl rfl (.bool true) rfl rfl (Zcv (by omega)) ?_
  refine Za (Zb (Ze (Zu rfl (Z0 (Zb (Ze (Z1 (Ze (Zf (Zd rfl rfl (Iv (j : Nat)) rfl (Zc rfl rfl (Iv (j : Nat)) rfl (Za (Zb (Zf (Zd rfl rfl (Iv (j : Nat)) rfl ?_)))))))))))))))
  refine Zdq (b := 1) (o := 0) (j := j) (n := 64) (sz := 1) (i := (j : Nat)) (k := .i64) rfl rfl rfl rfl rfl (by omega) (by omega) (by omega) ?_
  refine Zg (p := pt 1 j) (v := w8 (d j)) rfl rfl rfl (Ziw (blk := bxB 64 (Zaa w8 64 d)) (i := j) (enc := w8) (n := 64) (w := d) rfl rfl rfl (by omega) fun _ => rfl) ?_
  refine Zd rfl rfl (w8 u) rfl ?_
  refine Zi (vx := w8 (d j)) (vy := w8 u) rfl rfl (w8 ((d j) ^^^ u)) rfl rfl (xor8 (ofI _ _) (ofI _ _)) ?_
  refine Zdq (b := 1) (o := 0) (j := j) (n := 64) (sz := 1) (i := (j : Nat)) (k := .i64) rfl rfl rfl rfl rfl (by omega) (by omega) (by omega) ?_
  refine Zj (p := pt 1 j) (v := w8 ((d j) ^^^ u)) (b := 1) (blk := bxB 64 (Zaa w8 64 (Ze9 d j ((d j) ^^^ u)))) (H' := [dgB key, bxB 64 (Zaa w8 64 (Ze9 d j ((d j) ^^^ u)))]) rfl rfl rfl (Zho (blk := bxB 64 (Zaa w8 64 d)) (i := j) (enc := w8) (n := 64) (w := d) (x := ((d j) ^^^ u)) rfl rfl rfl rfl rfl (by omega) rfl rfl) (by kernel_rfl) ?_
  refine Za (Zag (Zb (Zf ?_)))
  refine Zi (vx := Iv (j : Nat)) (vy := Iv 1) rfl rfl (Iv ((j : Nat) + 1)) rfl rfl (Zap (by omega) (by omega) (by omega)) ?_
  refine Zd rfl rfl (Iv ((j : Nat) + 1)) rfl (Za ?_)
  refine Zx ⟨((j + 1), (Ze9 d j ((d j) ^^^ u))), ⟨Zwz hd, by omega⟩, by show 64 - (j + 1) < 64 - j; omega, ?_⟩
  refine Z2 (n := 2) rfl ?_ (by kernel_rfl) (by kernel_rfl)
  repeat (first | exact trivial | refine ⟨.inl rfl, ?_⟩ | refine ⟨.inr ⟨rfl, rfl⟩, ?_⟩ | refine ⟨.inr ⟨congrArg (Value.int .i64) (by first | omega | (dsimp only; omega)), rfl⟩, ?_⟩)
  refine Zi (vx := Iv (j : Nat)) (vy := Iv 64) rfl rfl (.bool false) rfl rfl (Zbv (by omega)) ?_
  refine Za (Zb (Ze (Zr rfl (Zbx (Zay (Zav (Za2 rfl (Zb (Ze (Zf ?_))))))))))
  refine Zci (p := pt 1 0) (vl := none) (vh := none) (v := slv 1 0 64 64) rfl rfl rfl rfl rfl rfl ?_
  refine Zgy (p := slv 1 0 64 64) (v := .string (Zs (Zhm 64 d))) rfl rfl rfl (Zec (l := (Zhm 64 d)) rfl rfl rfl rfl (of_decide_eq_true (by kernel_rfl)) (by kernel_rfl)) ?_
  refine Zc rfl rfl (.string (Zs (Zhm 64 d))) rfl (Za (Zb (Zw (Zy ?_))))
  rw [show Zax key u = Zs (Zhm 64 d) from by rw [hd, show j = 64 by omega]; rfl]
  exact Zo (v := .string (Zs (Zhm 64 d))) rfl rfl rfl (by kernel_rfl) rfl
theorem Zvc (kk : Nat → BitVec 32) (hG : G 0 = some (Zaa w32 64 kk)) (key : D) (s : ByteArray) (hs : s.size ≤ 1048576) : Zac Tryd.prog G 26 [dgV key, .string s] [] (dgV (Zf6 kk key s)) [] := by
  refine Zb8 (fn := Tryd.f26) (nt := 17) rfl rfl rfl rfl ?_
  refine Zah 5 (H' := [hole, hole, hole, hole, hole]) rfl ?_
  refine Ze (Zf ?_)
  refine Zdc (v := dgV key) (b := dgB key) (nid := 0) (H' := [dgB key, hole, hole, hole, hole]) rfl rfl rfl (by kernel_rfl) (by kernel_rfl) ?_
  refine Zq (b := dgB dz) (nid := 1) (H' := [dgB key, dgB dz, hole, hole, hole]) rfl rfl (by kernel_rfl) (by kernel_rfl) ?_
  refine Za (Zb (Ze (Zf ?_)))
  refine Zg (p := pt 0 0) (v := dgV key) rfl rfl rfl (by kernel_rfl) ?_
  refine Zv (Zls (G := G) key (54#8)) (vals := [dgV key, w8 (54#8)]) (res' := .string (Zax key (54#8))) rfl rfl rfl rfl rfl rfl ?_
  refine Zd rfl rfl (.string s) rfl ?_
  refine Zdd (vs := [(0, .string (Zax key (54#8))), (1, .string s)]) (v := slv 2 0 2 2) (blk := txB [(Zax key (54#8)), s]) (nid := 2) (H' := [dgB key, dgB dz, txB [(Zax key (54#8)), s], hole, hole]) rfl rfl rfl (by kernel_rfl) (by kernel_rfl) ?_
  refine Zab (e := [some (2, 0)]) (nid := 0) (Zs8 (G := G) kk hG [(Zax key (54#8)), s] 2 (by simp) (by simp [Zhu, Za3, Zei]; try omega)) (vals := [slv 2 0 2 2]) (v := dgV (Zbb kk (Zbn [(Zax key (54#8)), s]))) (H' := [dgB key, dgB dz, txB [(Zax key (54#8)), s], hole, hole]) rfl rfl rfl rfl rfl rfl rfl ⟨⟨⟨rfl, rfl, rfl, by first | omega | exact Nat.le_refl _, by first | omega | exact Nat.le_refl _⟩, trivial⟩, ⟨(Zhg rfl), trivial⟩, rfl, rfl, rfl⟩ (by kernel_rfl) (by kernel_rfl) ?_
  refine Zq (b := dgB dz) (nid := 3) (H' := [dgB key, dgB dz, txB [(Zax key (54#8)), s], dgB dz, hole]) rfl rfl (by kernel_rfl) (by kernel_rfl) ?_
  refine Zj (p := pt 3 0) (v := dgV (Zbb kk (Zbn [(Zax key (54#8)), s]))) (b := 3) (blk := dgB (Zbb kk (Zbn [(Zax key (54#8)), s]))) (H' := [dgB key, dgB dz, txB [(Zax key (54#8)), s], dgB (Zbb kk (Zbn [(Zax key (54#8)), s])), hole]) rfl rfl rfl (by kernel_rfl) (by kernel_rfl) ?_
  refine Za (Zb (Ze ?_))
  refine Zfs (by kernel_rfl) ?_
  refine Zg (p := pt 0 0) (v := dgV key) rfl rfl rfl (by kernel_rfl) ?_
  refine Zv (Zls (G := G) key (92#8)) (vals := [dgV key, w8 (92#8)]) (res' := .string (Zax key (92#8))) rfl rfl rfl rfl rfl rfl ?_
  refine Zci (p := pt 3 0) (vl := none) (vh := none) (v := slv 3 0 32 32) rfl rfl rfl rfl rfl rfl ?_
  refine Zgy (p := slv 3 0 32 32) (v := .string (Zs (dgL (Zbb kk (Zbn [(Zax key (54#8)), s]))))) rfl rfl rfl (Zec (l := (dgL (Zbb kk (Zbn [(Zax key (54#8)), s])))) rfl rfl rfl rfl (of_decide_eq_true (by kernel_rfl)) (by kernel_rfl)) ?_
  refine Zdd (vs := [(0, .string (Zax key (92#8))), (1, .string (Zs (dgL (Zbb kk (Zbn [(Zax key (54#8)), s])))))]) (v := slv 4 0 2 2) (blk := txB [(Zax key (92#8)), (Zs (dgL (Zbb kk (Zbn [(Zax key (54#8)), s]))))]) (nid := 4) (H' := [dgB key, dgB dz, txB [(Zax key (54#8)), s], dgB (Zbb kk (Zbn [(Zax key (54#8)), s])), txB [(Zax key (92#8)), (Zs (dgL (Zbb kk (Zbn [(Zax key (54#8)), s]))))]]) rfl rfl rfl (by kernel_rfl) (by kernel_rfl) ?_
  refine Zab (e := [some (4, 0)]) (nid := 0) (Zs8 (G := G) kk hG [(Zax key (92#8)), (Zs (dgL (Zbb kk (Zbn [(Zax key (54#8)), s]))))] 2 (by simp) (by simp [Zhu, Za3, Zei]; try omega)) (vals := [slv 4 0 2 2]) (v := dgV (Zbb kk (Zbn [(Zax key (92#8)), (Zs (dgL (Zbb kk (Zbn [(Zax key (54#8)), s]))))]))) (H' := [dgB key, dgB dz, txB [(Zax key (54#8)), s], dgB (Zbb kk (Zbn [(Zax key (54#8)), s])), txB [(Zax key (92#8)), (Zs (dgL (Zbb kk (Zbn [(Zax key (54#8)), s]))))]]) rfl rfl rfl rfl rfl rfl rfl ⟨⟨⟨rfl, rfl, rfl, by first | omega | exact Nat.le_refl _, by first | omega | exact Nat.le_refl _⟩, trivial⟩, ⟨(Zhg rfl), trivial⟩, rfl, rfl, rfl⟩ (by kernel_rfl) (by kernel_rfl) ?_
  refine Zj (p := pt 1 0) (v := dgV (Zbb kk (Zbn [(Zax key (92#8)), (Zs (dgL (Zbb kk (Zbn [(Zax key (54#8)), s]))))]))) (b := 1) (blk := dgB (Zbb kk (Zbn [(Zax key (92#8)), (Zs (dgL (Zbb kk (Zbn [(Zax key (54#8)), s]))))]))) (H' := [dgB key, dgB (Zbb kk (Zbn [(Zax key (92#8)), (Zs (dgL (Zbb kk (Zbn [(Zax key (54#8)), s]))))])), txB [(Zax key (54#8)), s], dgB (Zbb kk (Zbn [(Zax key (54#8)), s])), txB [(Zax key (92#8)), (Zs (dgL (Zbb kk (Zbn [(Zax key (54#8)), s]))))]]) rfl rfl rfl (by kernel_rfl) (by kernel_rfl) ?_
  refine Zfg (by kernel_rfl) ?_
  refine Zb (Zw (Zy ?_))
  exact Zo (v := dgV (Zbb kk (Zbn [(Zax key (92#8)), (Zs (dgL (Zbb kk (Zbn [(Zax key (54#8)), s]))))]))) (by kernel_rfl) rfl rfl (by kernel_rfl) (Za7 (Zaz fun _ => rfl) rfl)
theorem Z22 (a b : D) : Zac Tryd.prog G 56 [dgV a, dgV b] [] (.bool (Zbm 32 a b)) [] := by
  refine Zb8 (fn := Tryd.f56) (nt := 22) rfl rfl rfl rfl ?_
  refine Zah 2 (H' := [hole, hole]) rfl ?_
  refine Ze (Zf ?_)
  refine Zdc (v := dgV a) (b := dgB a) (nid := 0) (H' := [dgB a, hole]) rfl rfl rfl (by kernel_rfl) (by kernel_rfl) ?_
  refine Zdc (v := dgV b) (b := dgB b) (nid := 1) (H' := [dgB a, dgB b]) rfl rfl rfl (by kernel_rfl) (by kernel_rfl) ?_
  refine Zc rfl rfl (.bool false) rfl (Za (Zb (Ze (Zf (Zc rfl rfl (w8 (0#8)) rfl (Za (Zb (Ze (Ze (Zf (Zd rfl rfl (Iv 0) rfl (Za (Zb (Z1 ?_))))))))))))))
  refine Zby (fun x : Nat × (BitVec 8) => match x with | (j, all) => [dgV a, dgV b, pt 0 0, pt 1 0, .bool false, w8 all, dead, Iv (j : Nat)]) (fun x : Nat × (BitVec 8) => match x with | (j, all) => [dgB a, dgB b]) (fun x : Nat × (BitVec 8) => match x with | (j, all) => all = Zvg a b j ∧ j ≤ 32) (fun x : Nat × (BitVec 8) => match x with | (j, all) => 32 - j) (0, 0) ⟨rfl, by omega⟩ ?_ ?_
  · refine Z2 (n := 2) rfl ?_ (by kernel_rfl) (by kernel_rfl)
    repeat (first | exact trivial | refine ⟨.inl rfl, ?_⟩ | refine ⟨.inr ⟨rfl, rfl⟩, ?_⟩ | refine ⟨.inr ⟨congrArg (Value.int .i64) (by first | omega | (dsimp only; omega)), rfl⟩, ?_⟩)
  rintro ⟨j, all⟩ ⟨ha, hj⟩
  dsimp only at *
  refine Ze (Zf ?_)
  by_cases h1 : (j : Nat) < 32
  refine Zi (vx := Iv (j : Nat)) (vy := Iv 32) rfl rfl (.bool true) rfl rfl (Zcv (by omega)) ?_
  refine Za (Zb (Ze (Zu rfl (Z0 (Zb (Ze (Z1 (Ze (Zf (Zd rfl rfl (Iv (j : Nat)) rfl (Zc rfl rfl (Iv (j : Nat)) rfl (Za (Zb ?_)))))))))))))
  refine Zc4 (by kernel_rfl) ?_
  refine Zd rfl rfl (w8 all) rfl (Zd rfl rfl (Iv (j : Nat)) rfl ?_)
  refine Zdq (b := 0) (o := 0) (j := j) (n := 32) (sz := 1) (i := (j : Nat)) (k := .i64) rfl rfl rfl rfl rfl (by omega) (by omega) (by omega) ?_
  refine Zg (p := pt 0 j) (v := w8 (a j)) rfl rfl rfl (Ziw (blk := dgB a) (i := j) (enc := w8) (n := 32) (w := a) rfl rfl rfl (by omega) fun _ => rfl) ?_
  refine Zd rfl rfl (Iv (j : Nat)) rfl ?_
  refine Zdq (b := 1) (o := 0) (j := j) (n := 32) (sz := 1) (i := (j : Nat)) (k := .i64) rfl rfl rfl rfl rfl (by omega) (by omega) (by omega) ?_
  refine Zg (p := pt 1 j) (v := w8 (b j)) rfl rfl rfl (Ziw (blk := dgB b) (i := j) (enc := w8) (n := 32) (w := b) rfl rfl rfl (by omega) fun _ => rfl) ?_
  refine Zi (vx := w8 (a j)) (vy := w8 (b j)) rfl rfl (w8 ((a j) ^^^ (b j))) rfl rfl (xor8 (ofI _ _) (ofI _ _)) ?_
  refine Zi (vx := w8 all) (vy := w8 ((a j) ^^^ (b j))) rfl rfl (w8 (all ||| ((a j) ^^^ (b j)))) rfl rfl (or8 (ofI _ _) (ofI _ _)) ?_
  refine Zc rfl rfl (w8 (all ||| ((a j) ^^^ (b j)))) rfl ?_
  refine Zca (by kernel_rfl) ?_
  refine Zag (Zb (Zf ?_))
  refine Zi (vx := Iv (j : Nat)) (vy := Iv 1) rfl rfl (Iv ((j : Nat) + 1)) rfl rfl (Zap (by omega) (by omega) (by omega)) ?_
  refine Zd rfl rfl (Iv ((j : Nat) + 1)) rfl (Za ?_)
  refine Zx ⟨((j + 1), (all ||| ((a j) ^^^ (b j)))), ⟨Zym ha, by omega⟩, by show 32 - (j + 1) < 32 - j; omega, ?_⟩
  refine Z2 (n := 2) rfl ?_ (by kernel_rfl) (by kernel_rfl)
  repeat (first | exact trivial | refine ⟨.inl rfl, ?_⟩ | refine ⟨.inr ⟨rfl, rfl⟩, ?_⟩ | refine ⟨.inr ⟨congrArg (Value.int .i64) (by first | omega | (dsimp only; omega)), rfl⟩, ?_⟩)
  refine Zi (vx := Iv (j : Nat)) (vy := Iv 32) rfl rfl (.bool false) rfl rfl (Zbv (by omega)) ?_
  refine Za (Zb (Ze (Zr rfl (Zbx (Zay (Zav (Za2 rfl (Zb (Ze (Zf (Zd rfl rfl (w8 all) rfl ?_)))))))))))
  rcases Bool.eq_false_or_eq_true (all == 0#8) with h2 | h2
  refine Zi (vx := w8 all) (vy := w8 (0#8)) rfl rfl (.bool true) rfl rfl (Eq.trans Zy1 (by rw [h2] <;> rfl)) ?_
  refine Zc rfl rfl (.bool true) rfl (Za (Zb (Zw (Zy ?_))))
  rw [show Zbm 32 a b = true from by rw [← Zqw, ← show j = 32 by omega, ← ha]; exact h2]
  exact Zo (v := .bool true) rfl rfl rfl (by kernel_rfl) rfl
  refine Zi (vx := w8 all) (vy := w8 (0#8)) rfl rfl (.bool false) rfl rfl (Eq.trans Zy1 (by rw [h2] <;> rfl)) ?_
  refine Zc rfl rfl (.bool false) rfl (Za (Zb (Zw (Zy ?_))))
  rw [show Zbm 32 a b = false from by rw [← Zqw, ← show j = 32 by omega, ← ha]; exact h2]
  exact Zo (v := .bool false) rfl rfl rfl (by kernel_rfl) rfl
theorem Z0e (kk : Nat → BitVec 32) (hG : G 0 = some (Zaa w32 64 kk)) (master : D) (region node : Int)  : Zac Tryd.prog G 25 [dgV master, Iv region, Iv node] [] (.tuple #[dgV (Zbq kk master region node).1, Iv (Zbq kk master region node).2]) [] := by
 refine Zb8 (fn := Tryd.f25) (nt := 31) rfl rfl rfl rfl ?_
 refine Zah 3 (H' := [hole, hole, hole]) rfl ?_
 refine Ze (Zf ?_)
 refine Zdc (v := dgV master) (b := dgB master) (nid := 0) (H' := [dgB master, hole, hole]) rfl rfl rfl (by kernel_rfl) (by kernel_rfl) ?_
 refine Zq (b := dgB dz) (nid := 1) (H' := [dgB master, dgB dz, hole]) rfl rfl (by kernel_rfl) (by kernel_rfl) ?_
 refine Zc rfl rfl (Iv 0) rfl (Za (Zb (Ze (Ze (Zf (Zd rfl rfl (Iv region) rfl ?_))))))
 by_cases h1 : region < 1
 refine Zi (vx := Iv region) (vy := Iv 1) rfl rfl (.bool true) rfl rfl (Zcv (by omega)) ?_
 refine Zd rfl rfl (.bool true) rfl (Zn rfl rfl (Zn rfl rfl (Zp rfl rfl (.bool true) rfl (Zd rfl rfl (.bool true) rfl (Zn rfl rfl (Zn rfl rfl (Zp rfl rfl (.bool true) rfl (Zd rfl rfl (.bool true) rfl (Zn rfl rfl (Zn rfl rfl (Zp rfl rfl (.bool true) rfl (Za (Zb (Zu rfl (Ze (Zf ?_))))))))))))))))
 refine Zbf (vs := []) (v := dgV dz) rfl rfl rfl (by kernel_rfl) ?_
 refine Zj (p := pt 1 0) (v := dgV dz) (b := 1) (blk := dgB dz) (H' := [dgB master, dgB dz, hole]) rfl rfl rfl (by kernel_rfl) (by kernel_rfl) ?_
 refine Zc rfl rfl (Iv 50) rfl (Za (Zb (Zw (Zaj (Zy ?_)))))
 rw [show Zbq kk master region node = (dz, 50) from if_neg (by omega)]
 exact Zo (v := .tuple #[dgV dz, Iv 50]) (by kernel_rfl) rfl rfl (by kernel_rfl) ⟨(Za7 (Zaz fun _ => rfl) rfl), rfl, trivial⟩
 refine Zi (vx := Iv region) (vy := Iv 1) rfl rfl (.bool false) rfl rfl (Zbv (by omega)) ?_
 refine Zd rfl rfl (.bool false) rfl (Zd rfl rfl (Iv region) rfl ?_)
 by_cases h2 : 5 < region
 refine Zi (vx := Iv region) (vy := Iv 5) rfl rfl (.bool true) rfl rfl (Zde (by omega)) ?_
 refine Zp rfl rfl (.bool true) rfl (Zd rfl rfl (.bool true) rfl (Zn rfl rfl (Zn rfl rfl (Zp rfl rfl (.bool true) rfl (Zd rfl rfl (.bool true) rfl (Zn rfl rfl (Zn rfl rfl (Zp rfl rfl (.bool true) rfl (Za (Zb (Zu rfl (Ze (Zf ?_)))))))))))))
 refine Zbf (vs := []) (v := dgV dz) rfl rfl rfl (by kernel_rfl) ?_
 refine Zj (p := pt 1 0) (v := dgV dz) (b := 1) (blk := dgB dz) (H' := [dgB master, dgB dz, hole]) rfl rfl rfl (by kernel_rfl) (by kernel_rfl) ?_
 refine Zc rfl rfl (Iv 50) rfl (Za (Zb (Zw (Zaj (Zy ?_)))))
 rw [show Zbq kk master region node = (dz, 50) from if_neg (by omega)]
 exact Zo (v := .tuple #[dgV dz, Iv 50]) (by kernel_rfl) rfl rfl (by kernel_rfl) ⟨(Za7 (Zaz fun _ => rfl) rfl), rfl, trivial⟩
 refine Zi (vx := Iv region) (vy := Iv 5) rfl rfl (.bool false) rfl rfl (Zcw (by omega)) ?_
 refine Zp rfl rfl (.bool false) rfl (Zd rfl rfl (.bool false) rfl (Zd rfl rfl (Iv node) rfl ?_))
 by_cases h3 : node < 1
 refine Zi (vx := Iv node) (vy := Iv 1) rfl rfl (.bool true) rfl rfl (Zcv (by omega)) ?_
 refine Zp rfl rfl (.bool true) rfl (Zd rfl rfl (.bool true) rfl (Zn rfl rfl (Zn rfl rfl (Zp rfl rfl (.bool true) rfl (Za (Zb (Zu rfl (Ze (Zf ?_)))))))))
 refine Zbf (vs := []) (v := dgV dz) rfl rfl rfl (by kernel_rfl) ?_
 refine Zj (p := pt 1 0) (v := dgV dz) (b := 1) (blk := dgB dz) (H' := [dgB master, dgB dz, hole]) rfl rfl rfl (by kernel_rfl) (by kernel_rfl) ?_
 refine Zc rfl rfl (Iv 50) rfl (Za (Zb (Zw (Zaj (Zy ?_)))))
 rw [show Zbq kk master region node = (dz, 50) from if_neg (by omega)]
 exact Zo (v := .tuple #[dgV dz, Iv 50]) (by kernel_rfl) rfl rfl (by kernel_rfl) ⟨(Za7 (Zaz fun _ => rfl) rfl), rfl, trivial⟩
 refine Zi (vx := Iv node) (vy := Iv 1) rfl rfl (.bool false) rfl rfl (Zbv (by omega)) ?_
 refine Zp rfl rfl (.bool false) rfl (Zd rfl rfl (.bool false) rfl (Zd rfl rfl (Iv node) rfl ?_))
 by_cases h4 : 3 < node
 refine Zi (vx := Iv node) (vy := Iv 3) rfl rfl (.bool true) rfl rfl (Zde (by omega)) ?_
 refine Zp rfl rfl (.bool true) rfl (Za (Zb (Zu rfl (Ze (Zf ?_)))))
 refine Zbf (vs := []) (v := dgV dz) rfl rfl rfl (by kernel_rfl) ?_
 refine Zj (p := pt 1 0) (v := dgV dz) (b := 1) (blk := dgB dz) (H' := [dgB master, dgB dz, hole]) rfl rfl rfl (by kernel_rfl) (by kernel_rfl) ?_
 refine Zc rfl rfl (Iv 50) rfl (Za (Zb (Zw (Zaj (Zy ?_)))))
 rw [show Zbq kk master region node = (dz, 50) from if_neg (by omega)]
 exact Zo (v := .tuple #[dgV dz, Iv 50]) (by kernel_rfl) rfl rfl (by kernel_rfl) ⟨(Za7 (Zaz fun _ => rfl) rfl), rfl, trivial⟩
 refine Zi (vx := Iv node) (vy := Iv 3) rfl rfl (.bool false) rfl rfl (Zcw (by omega)) ?_
 refine Zp rfl rfl (.bool false) rfl (Za (Zb (Zr rfl (Z0 (Zb (Ze (Zf ?_)))))))
 refine Zg (p := pt 0 0) (v := dgV master) rfl rfl rfl (by kernel_rfl) ?_
 refine Zd rfl rfl (Iv region) rfl ?_
 refine Zcc (w := Iv region) (v := w8 (BitVec.ofInt 8 region)) rfl rfl rfl (Zgn rfl rfl rfl) ?_
 refine Zd rfl rfl (Iv node) rfl ?_
 refine Zcc (w := Iv node) (v := w8 (BitVec.ofInt 8 node)) rfl rfl rfl (Zgn rfl rfl rfl) ?_
 refine Zdd (vs := [(0, w8 (75#8)), (1, w8 (BitVec.ofInt 8 region)), (2, w8 (BitVec.ofInt 8 node))]) (v := slv 2 0 3 3) (blk := Zan [75#8, (BitVec.ofInt 8 region), (BitVec.ofInt 8 node)]) (nid := 2) (H' := [dgB master, dgB dz, Zan [75#8, (BitVec.ofInt 8 region), (BitVec.ofInt 8 node)]]) rfl rfl rfl (by kernel_rfl) (by kernel_rfl) ?_
 refine Zgy (p := slv 2 0 3 3) (v := .string (Zs [75#8, (BitVec.ofInt 8 region), (BitVec.ofInt 8 node)])) rfl rfl rfl (Zkx rfl rfl rfl rfl rfl (by have := (rfl : _ = 3); omega)) ?_
 refine Zv (Zvc (G := G) kk hG master (Zs [75#8, (BitVec.ofInt 8 region), (BitVec.ofInt 8 node)]) (by simp [Za3])) (vals := [dgV master, .string (Zs [75#8, (BitVec.ofInt 8 region), (BitVec.ofInt 8 node)])]) (res' := dgV (Zf6 kk master (Zs [75#8, (BitVec.ofInt 8 region), (BitVec.ofInt 8 node)]))) rfl rfl rfl rfl rfl (by kernel_rfl) ?_
 refine Zj (p := pt 1 0) (v := dgV (Zf6 kk master (Zs [75#8, (BitVec.ofInt 8 region), (BitVec.ofInt 8 node)]))) (b := 1) (blk := dgB (Zf6 kk master (Zs [75#8, (BitVec.ofInt 8 region), (BitVec.ofInt 8 node)]))) (H' := [dgB master, dgB (Zf6 kk master (Zs [75#8, (BitVec.ofInt 8 region), (BitVec.ofInt 8 node)])), Zan [75#8, (BitVec.ofInt 8 region), (BitVec.ofInt 8 node)]]) rfl rfl rfl (by kernel_rfl) (by kernel_rfl) ?_
 refine Zc rfl rfl (Iv 0) rfl (Za (Zb (Zw (Zy ?_))))
 rw [show Zbq kk master region node = ((Zf6 kk master (Zs [75#8, (BitVec.ofInt 8 region), (BitVec.ofInt 8 node)])), 0) from if_pos (by omega)]
 exact Zo (v := .tuple #[dgV (Zf6 kk master (Zs [75#8, (BitVec.ofInt 8 region), (BitVec.ofInt 8 node)])), Iv 0]) (by kernel_rfl) rfl rfl (by kernel_rfl) ⟨(Za7 (Zaz fun _ => rfl) rfl), rfl, trivial⟩
def Zgc (kk : Nat → BitVec 32) (master : D) (region node : Int) (s : ByteArray) (t : D) : Int :=
  if ((Zbq kk master region node).2) ≠ 0 then ((Zbq kk master region node).2) else
  if Zbm 32 (Zf6 kk ((Zbq kk master region node).1) s) t = true then 0 else
  72
theorem Z0d (kk : Nat → BitVec 32) (hG : G 0 = some (Zaa w32 64 kk)) (master : D) (region node : Int) (s : ByteArray) (t : D) (hs : s.size ≤ 1048576) : Zac Tryd.prog G 36 [dgV master, Iv region, Iv node, .string s, dgV t] [] (Iv (Zgc kk master region node s t)) [] := by
 refine Zb8 (fn := Tryd.f36) (nt := 31) rfl rfl rfl rfl ?_
 refine Zah 3 (H' := [hole, hole, hole]) rfl ?_
 refine Ze (Zf ?_)
 refine Zdc (v := dgV master) (b := dgB master) (nid := 0) (H' := [dgB master, hole, hole]) rfl rfl rfl (by kernel_rfl) (by kernel_rfl) ?_
 refine Zdc (v := dgV t) (b := dgB t) (nid := 1) (H' := [dgB master, dgB t, hole]) rfl rfl rfl (by kernel_rfl) (by kernel_rfl) ?_
 refine Zc rfl rfl (Iv 0) rfl (Za (Zb (Ze (Zf ?_))))
 refine Zg (p := pt 0 0) (v := dgV master) rfl rfl rfl (by kernel_rfl) ?_
 refine Zd rfl rfl (Iv region) rfl (Zd rfl rfl (Iv node) rfl ?_)
 refine Zv (Z0e (G := G) kk hG master region node) (vals := [dgV master, Iv region, Iv node]) (res' := .tuple #[dgV ((Zbq kk master region node).1), Iv ((Zbq kk master region node).2)]) rfl rfl rfl rfl rfl (by kernel_rfl) ?_
 refine Zd rfl rfl (.tuple #[dgV ((Zbq kk master region node).1), Iv ((Zbq kk master region node).2)]) rfl (Z5 (vs := #[dgV ((Zbq kk master region node).1), Iv ((Zbq kk master region node).2)]) (v := dgV ((Zbq kk master region node).1)) rfl rfl rfl rfl (Z5 (vs := #[dgV ((Zbq kk master region node).1), Iv ((Zbq kk master region node).2)]) (v := Iv ((Zbq kk master region node).2)) rfl rfl rfl rfl ?_))
 refine Zq (b := dgB dz) (nid := 2) (H' := [dgB master, dgB t, dgB dz]) rfl rfl (by kernel_rfl) (by kernel_rfl) ?_
 refine Zj (p := pt 2 0) (v := dgV ((Zbq kk master region node).1)) (b := 2) (blk := dgB ((Zbq kk master region node).1)) (H' := [dgB master, dgB t, dgB ((Zbq kk master region node).1)]) rfl rfl rfl (by kernel_rfl) (by kernel_rfl) ?_
 refine Zc rfl rfl (Iv ((Zbq kk master region node).2)) rfl (Za (Zb (Ze (Z1 (Ze (Zf (Zd rfl rfl (Iv ((Zbq kk master region node).2)) rfl ?_)))))))
 by_cases h1 : ((Zbq kk master region node).2) ≠ 0
 refine Zi (vx := Iv ((Zbq kk master region node).2)) (vy := Iv 0) rfl rfl (.bool true) rfl rfl (Zke (by omega)) ?_
 refine Zc rfl rfl (.bool true) rfl (Za (Zb (Zu rfl (Ze (Zf (Zd rfl rfl (Iv ((Zbq kk master region node).2)) rfl (Zc rfl rfl (Iv ((Zbq kk master region node).2)) rfl (Za (Zb (Zw (Zbc (Zaj (Zy ?_)))))))))))))
 rw [show Zgc kk master region node s t = ((Zbq kk master region node).2) from by unfold Zgc; rw [if_pos h1]]
 exact Zo (v := Iv ((Zbq kk master region node).2)) rfl rfl rfl (by kernel_rfl) rfl
 refine Zi (vx := Iv ((Zbq kk master region node).2)) (vy := Iv 0) rfl rfl (.bool false) rfl rfl (Zen (by omega)) ?_
 refine Zc rfl rfl (.bool false) rfl (Za (Zb (Zr rfl (Ze ?_))))
 refine Zfs (by kernel_rfl) ?_
 refine Zg (p := pt 2 0) (v := dgV ((Zbq kk master region node).1)) rfl rfl rfl (by kernel_rfl) ?_
 refine Zd rfl rfl (.string s) rfl ?_
 refine Zv (Zvc (G := G) kk hG ((Zbq kk master region node).1) s hs) (vals := [dgV ((Zbq kk master region node).1), .string s]) (res' := dgV (Zf6 kk ((Zbq kk master region node).1) s)) rfl rfl rfl rfl rfl (by kernel_rfl) ?_
 refine Zg (p := pt 1 0) (v := dgV t) rfl rfl rfl (by kernel_rfl) ?_
 refine Zv (Z22 (G := G) (Zf6 kk ((Zbq kk master region node).1) s) t) (vals := [dgV (Zf6 kk ((Zbq kk master region node).1) s), dgV t]) (res' := .bool (Zbm 32 (Zf6 kk ((Zbq kk master region node).1) s) t)) rfl rfl rfl rfl rfl rfl ?_
 rcases Bool.eq_false_or_eq_true (Zbm 32 (Zf6 kk ((Zbq kk master region node).1) s) t) with h2 | h2
 refine Zhl (vx := .bool (Zbm 32 (Zf6 kk ((Zbq kk master region node).1) s) t)) rfl rfl (.bool false) rfl (Eq.trans Zdu (congrArg (fun b => some (Value.bool !b)) h2)) ?_
 refine Zc rfl rfl (.bool false) rfl ?_
 refine Zfg (by kernel_rfl) ?_
 refine Zb (Zr rfl (Z0 (Zag (Zb (Ze (Zf (Zc rfl rfl (Iv 0) rfl (Za (Zb (Zw (Zy ?_)))))))))))
 rw [show Zgc kk master region node s t = 0 from by unfold Zgc; rw [if_neg h1, if_pos h2]]
 exact Zo (v := Iv 0) rfl rfl rfl (by kernel_rfl) rfl
 refine Zhl (vx := .bool (Zbm 32 (Zf6 kk ((Zbq kk master region node).1) s) t)) rfl rfl (.bool true) rfl (Eq.trans Zdu (congrArg (fun b => some (Value.bool !b)) h2)) ?_
 refine Zc rfl rfl (.bool true) rfl ?_
 refine Zfg (by kernel_rfl) ?_
 refine Zb (Zu rfl (Ze (Zf (Zc rfl rfl (Iv 72) rfl (Za (Zb (Zw (Zbc (Zaj (Zy ?_))))))))))
 rw [show Zgc kk master region node s t = 72 from by unfold Zgc; rw [if_neg h1, if_neg (by rw [h2]; decide)]]
 exact Zo (v := Iv 72) rfl rfl rfl (by kernel_rfl) rfl
end Go.Flat
