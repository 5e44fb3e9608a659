/- Walks. -/
import Derived.Test.YtfjkagjbanhdlaaDoorH4
set_option linter.unusedVariables false
set_option linter.unusedSimpArgs false
set_option maxRecDepth 20000
namespace Go.Flat
open Go.Proofs
variable {G : Glob}
def Z2e (key : D) : D := fun i => if i < 32 then key i else 0
def Zqt (c : D) (x : BitVec 8) (j : Nat) : D := fun i => if i < j then c i ^^^ x else c i
theorem Zxr (c : D) (x : BitVec 8) : Zqt c x 0 = c := by funext i; simp [Zqt]
theorem Zxq {c d : D} {x : BitVec 8} {j : Nat} (h : d = Zqt c x j) : Zhx d j (d j ^^^ x) = Zqt c x (j + 1) := by
 subst h
 funext i
 unfold Zhx Zqt
 by_cases hi : i = j
 ·subst hi; simp
 ·simp only [if_neg hi]
  by_cases h1 : i < j
  ·rw [if_pos h1, if_pos (by omega)]
  ·rw [if_neg h1, if_neg (by omega)]
def Zbd (key : D) (x : BitVec 8) : ByteArray := Zk (Zj1 64 (Zqt (Z2e key) x 64))
theorem Zhz (key : D) (x : BitVec 8) : (Zbd key x).size = 64 := by unfold Zbd; rw [Za6, Zkk]
def Zf4 (kk : Nat → BitVec 32) (key : D) (s : ByteArray) : D := Zcx kk (Zby [Zbd key 92#8, Zk (dgL (Zcx kk (Zby [Zbd key 54#8, s])))])
def Zv6 (a b : D) : Nat → BitVec 8
  | 0 => 0
  | j + 1 => Zv6 a b j ||| (a j ^^^ b j)
theorem Zy6 {a b : D} {all : BitVec 8} {j : Nat} (h : all = Zv6 a b j) : (all ||| (a j ^^^ b j)) = Zv6 a b (j + 1) := by subst h; rfl
theorem Z2d (x y : BitVec 8) : (x ||| y == 0#8) = ((x == 0#8) && (y == 0#8)) := by
 rw [Bool.eq_iff_iff, Bool.and_eq_true, beq_iff_eq, beq_iff_eq, beq_iff_eq]
 constructor
 ·intro h
  constructor
  ·apply BitVec.eq_of_getLsbD_eq; intro i hi; have := congrArg (fun z => z.getLsbD i) h; simp at this ⊢; exact this.1
  ·apply BitVec.eq_of_getLsbD_eq; intro i hi; have := congrArg (fun z => z.getLsbD i) h; simp at this ⊢; exact this.2
 ·rintro ⟨rfl, rfl⟩; rfl
theorem Z0f (x y : BitVec 8) : (x ^^^ y == 0#8) = (x == y) := by
 rw [Bool.eq_iff_iff, beq_iff_eq, beq_iff_eq]
 constructor
 ·intro h; exact BitVec.xor_eq_zero_iff.1 h
 ·rintro rfl; exact BitVec.xor_self
theorem Ztj (a b : D) : ∀ j, (Zv6 a b j == 0#8) = (List.range j).all fun i => a i == b i
 | 0 => rfl
 | j + 1 => by
  rw [Zv6, Z2d, Z0f, Ztj a b j, List.range_succ, List.all_append]; simp
theorem Zq9 (a b : D) : (Zv6 a b 32 == 0#8) = Zcg 32 a b := Ztj a b 32
def Zbr (kk : Nat → BitVec 32) (master : D) (region node : Int) : D × Int := if (1 ≤ region ∧ region ≤ 5) ∧ (1 ≤ node ∧ node ≤ 3) then (Zf4 kk master (Zk [75#8, BitVec.ofInt 8 region, BitVec.ofInt 8 node]), 0) else (dz, 50)
theorem Zl6 (key : D) (u : BitVec 8) : Z9 Tryd.prog G 45 [dgV key, w8 u] [] (.string (Zbd key u)) [] := by
  refine Zbu (fn := Tryd.f45) (nt := 22) rfl rfl rfl rfl ?_
  refine Zaj 2 (H' := [hole, hole]) rfl ?_
  refine Ze (Zf (Zci (v := dgV key) (b := dgB key) (nid := 0) (H' := [dgB key, hole]) (Zb (.string ⟨#[]⟩) (Za (Zc (Ze (Zf (Zai (b := bxB 64 (Z6 w8 64 dz)) (nid := 1) (H' := [dgB key, bxB 64 (Z6 w8 64 dz)]) (Za (Zc (Ze ?_)))))))))))
  refine Zer (by kernel_rfl) ?_
  refine Zda (p := pt 1 0) (vl := none) (vh := none) (v := slv 1 0 64 64) rfl rfl rfl rfl rfl rfl ?_
  refine Zda (p := pt 0 0) (vl := none) (vh := none) (v := slv 0 0 32 32) rfl rfl rfl rfl rfl rfl ?_
  refine Z2n (p := slv 1 0 64 64) (q := slv 0 0 32 32) (v := Iv 32) (b := 1) (blk := bxB 64 (Z6 w8 64 (Z2e key))) (H' := [dgB key, bxB 64 (Z6 w8 64 (Z2e key))]) rfl rfl rfl rfl (by kernel_rfl) (by kernel_rfl) ?_
  refine Zdq (by kernel_rfl) ?_
  refine Zc (Ze (Ze (Zf (Zd (Iv 0) (Za (Zc (Z5 ?_)))))))
  refine Zck (fun x : Nat × D => match x with | (j, d) => [dgV key, w8 u, pt 0 0, dead, .string ⟨#[]⟩, pt 1 0, dead, slv 1 0 64 64, slv 0 0 32 32, Iv 32, Iv (j : Nat)]) (fun x : Nat × D => match x with | (j, d) => [dgB key, bxB 64 (Z6 w8 64 d)]) (fun x : Nat × D => match x with | (j, d) => d = Zqt (Z2e key) u j ∧ j ≤ 64) (fun x : Nat × D => match x with | (j, d) => 64 - j) (0, (Z2e key)) ⟨(Zxr _ _).symm, by omega⟩ ?_ ?_
  · refine Zam (n := 2) rfl ?_ (by kernel_rfl) (by kernel_rfl)
    repeat (first | exact trivial | refine ⟨.inl rfl, ?_⟩ | refine ⟨.inr ⟨rfl, rfl⟩, ?_⟩ | refine ⟨.inr ⟨congrArg (Value.int .i64) (by first | omega | (dsimp only; omega)), rfl⟩, ?_⟩)
  rintro ⟨j, d⟩ ⟨hd, hj⟩
  dsimp only at *
  refine Ze (Zf ?_)
  by_cases h1 : (j : Nat) < 64
  refine Zj (vx := Iv (j : Nat)) (vy := Iv 64) rfl rfl (.bool true) rfl rfl (Zdd (by omega)) ?_
  refine Za (Zc (Ze (Zv rfl (Z0 (Zc (Ze (Z5 (Ze (Zf (Zd (Iv (j : Nat)) (Zb (Iv (j : Nat)) (Za (Zc (Zf (Zd (Iv (j : Nat)) ?_)))))))))))))))
  refine Zd0 (b := 1) (o := 0) (j := j) (n := 64) (sz := 1) (i := (j : Nat)) (k := .i64) rfl rfl rfl rfl rfl (by omega) (by omega) (by omega) ?_
  refine Zal (p := pt 1 j) (v := w8 (d j)) rfl rfl rfl (Ziw (blk := bxB 64 (Z6 w8 64 d)) (i := j) (enc := w8) (n := 64) (w := d) rfl rfl rfl (by omega) fun _ => rfl) ?_
  refine Zd (w8 u) ?_
  refine Zj (vx := w8 (d j)) (vy := w8 u) rfl rfl (w8 ((d j) ^^^ u)) rfl rfl (Z7n (ofI _ _) (ofI _ _)) ?_
  refine Zd0 (b := 1) (o := 0) (j := j) (n := 64) (sz := 1) (i := (j : Nat)) (k := .i64) rfl rfl rfl rfl rfl (by omega) (by omega) (by omega) ?_
  refine Za1 (p := pt 1 j) (v := w8 ((d j) ^^^ u)) (b := 1) (blk := bxB 64 (Z6 w8 64 (Zhx d j ((d j) ^^^ u)))) (H' := [dgB key, bxB 64 (Z6 w8 64 (Zhx d j ((d j) ^^^ u)))]) rfl rfl rfl (Zhq (blk := bxB 64 (Z6 w8 64 d)) (i := j) (enc := w8) (n := 64) (w := d) (x := ((d j) ^^^ u)) rfl rfl rfl rfl rfl (by omega) rfl rfl) (by kernel_rfl) ?_
  refine Za (Zz (Zc (Zf ?_)))
  refine Zj (vx := Iv (j : Nat)) (vy := Iv 1) rfl rfl (Iv ((j : Nat) + 1)) rfl rfl (Za0 (by omega) (by omega) (by omega)) ?_
  refine Zd (Iv ((j : Nat) + 1)) (Za ?_)
  refine Zas ⟨((j + 1), (Zhx d j ((d j) ^^^ u))), ⟨Zxq hd, by omega⟩, by show 64 - (j + 1) < 64 - j; omega, ?_⟩
  refine Zam (n := 2) rfl ?_ (by kernel_rfl) (by kernel_rfl)
  repeat (first | exact trivial | refine ⟨.inl rfl, ?_⟩ | refine ⟨.inr ⟨rfl, rfl⟩, ?_⟩ | refine ⟨.inr ⟨congrArg (Value.int .i64) (by first | omega | (dsimp only; omega)), rfl⟩, ?_⟩)
  refine Zj (vx := Iv (j : Nat)) (vy := Iv 64) rfl rfl (.bool false) rfl rfl (Zcw (by omega)) ?_
  refine Za (Zc (Ze (Zt rfl (Zbn (Zat (Za3 (Zay rfl (Zc (Ze (Zf ?_))))))))))
  refine Zda (p := pt 1 0) (vl := none) (vh := none) (v := slv 1 0 64 64) rfl rfl rfl rfl rfl rfl ?_
  refine Zfs (p := slv 1 0 64 64) (v := .string (Zk (Zj1 64 d))) rfl rfl rfl (Zd9 (l := (Zj1 64 d)) rfl rfl rfl rfl (of_decide_eq_true (by kernel_rfl)) (by kernel_rfl)) ?_
  refine Zb (.string (Zk (Zj1 64 d))) (Za (Zc (Zs (Zu ?_))))
  rw [show Zbd key u = Zk (Zj1 64 d) from by rw [hd, show j = 64 by omega]; rfl]
  exact Zm (v := .string (Zk (Zj1 64 d))) rfl rfl rfl (by kernel_rfl) rfl
abbrev Y2 (kk : Nat → BitVec 32) (key : D) (s : ByteArray) : Blk := txB [(Zbd key (92#8)), (Zk (dgL (Zcx kk (Zby [(Zbd key (54#8)), s]))))]
theorem Zvx (kk : Nat → BitVec 32) (hG : G 0 = some (Z6 w32 64 kk)) (key : D) (s : ByteArray) (hs : s.size ≤ 1048576) : Z9 Tryd.prog G 25 [dgV key, .string s] [] (dgV (Zf4 kk key s)) [] := by
  refine Zbu (fn := Tryd.f25) (nt := 17) rfl rfl rfl rfl ?_
  refine Zaj 5 (H' := [hole, hole, hole, hole, hole]) rfl ?_
  refine Ze (Zf (Zci (v := dgV key) (b := dgB key) (nid := 0) (H' := [dgB key, hole, hole, hole, hole]) (Zai (b := dgB dz) (nid := 1) (H' := [dgB key, dgB dz, hole, hole, hole]) (Za (Zc (Ze (Zf (Zn (p := pt 0 0) (v := dgV key) ?_))))))))
  refine Zp (Zl6 (G := G) key (54#8)) (vals := [dgV key, w8 (54#8)]) (res' := .string (Zbd key (54#8))) rfl rfl rfl rfl rfl rfl ?_
  refine Zd (.string s) ?_
  refine Zel (vs := [(0, .string (Zbd key (54#8))), (1, .string s)]) (v := slv 2 0 2 2) (blk := txB [(Zbd key (54#8)), s]) (nid := 2) (H' := [dgB key, dgB dz, txB [(Zbd key (54#8)), s], hole, hole]) rfl rfl rfl (by kernel_rfl) (by kernel_rfl) ?_
  refine Zab (e := [some (2, 0)]) (nid := 0) (Ztf (G := G) kk hG [(Zbd key (54#8)), s] 2 (by simp) (by simp [Zhz, Za6, Zfw]; try omega)) (vals := [slv 2 0 2 2]) (v := dgV (Zcx kk (Zby [(Zbd key (54#8)), s]))) (H' := [dgB key, dgB dz, txB [(Zbd key (54#8)), s], hole, hole]) rfl rfl rfl rfl rfl rfl rfl ⟨⟨⟨rfl, rfl, rfl, by first | omega | exact Nat.le_refl _, by first | omega | exact Nat.le_refl _⟩, trivial⟩, ⟨(Zwk rfl), trivial⟩, rfl, rfl, rfl⟩ (by kernel_rfl) (by kernel_rfl) ?_
  refine Zai (b := dgB dz) (nid := 3) (H' := [dgB key, dgB dz, txB [(Zbd key (54#8)), s], dgB dz, hole]) (Z2 (p := pt 3 0) (v := dgV (Zcx kk (Zby [(Zbd key (54#8)), s]))) (b := 3) (blk := dgB (Zcx kk (Zby [(Zbd key (54#8)), s]))) (H' := [dgB key, dgB dz, txB [(Zbd key (54#8)), s], dgB (Zcx kk (Zby [(Zbd key (54#8)), s])), hole]) (Za (Zc (Ze ?_))))
  refine Zku (by kernel_rfl) ?_
  refine Zn (p := pt 0 0) (v := dgV key) ?_
  refine Zp (Zl6 (G := G) key (92#8)) (vals := [dgV key, w8 (92#8)]) (res' := .string (Zbd key (92#8))) rfl rfl rfl rfl rfl rfl ?_
  refine Zda (p := pt 3 0) (vl := none) (vh := none) (v := slv 3 0 32 32) rfl rfl rfl rfl rfl rfl ?_
  refine Zfs (p := slv 3 0 32 32) (v := .string (Zk (dgL (Zcx kk (Zby [(Zbd key (54#8)), s]))))) rfl rfl rfl (Zd9 (l := (dgL (Zcx kk (Zby [(Zbd key (54#8)), s])))) rfl rfl rfl rfl (of_decide_eq_true (by kernel_rfl)) (by kernel_rfl)) ?_
  refine Zel (vs := [(0, .string (Zbd key (92#8))), (1, .string (Zk (dgL (Zcx kk (Zby [(Zbd key (54#8)), s])))))]) (v := slv 4 0 2 2) (blk := txB [(Zbd key (92#8)), (Zk (dgL (Zcx kk (Zby [(Zbd key (54#8)), s]))))]) (nid := 4) (H' := [dgB key, dgB dz, txB [(Zbd key (54#8)), s], dgB (Zcx kk (Zby [(Zbd key (54#8)), s])), Y2 kk key s]) rfl rfl rfl (by kernel_rfl) (by kernel_rfl) ?_
  refine Zab (e := [some (4, 0)]) (nid := 0) (Ztf (G := G) kk hG [(Zbd key (92#8)), (Zk (dgL (Zcx kk (Zby [(Zbd key (54#8)), s]))))] 2 (by simp) (by simp [Zhz, Za6, Zfw]; try omega)) (vals := [slv 4 0 2 2]) (v := dgV (Zcx kk (Zby [(Zbd key (92#8)), (Zk (dgL (Zcx kk (Zby [(Zbd key (54#8)), s]))))]))) (H' := [dgB key, dgB dz, txB [(Zbd key (54#8)), s], dgB (Zcx kk (Zby [(Zbd key (54#8)), s])), Y2 kk key s]) rfl rfl rfl rfl rfl rfl rfl ⟨⟨⟨rfl, rfl, rfl, by first | omega | exact Nat.le_refl _, by first | omega | exact Nat.le_refl _⟩, trivial⟩, ⟨(Zwk rfl), trivial⟩, rfl, rfl, rfl⟩ (by kernel_rfl) (by kernel_rfl) ?_
  refine Z2 (p := pt 1 0) (v := dgV (Zcx kk (Zby [(Zbd key (92#8)), (Zk (dgL (Zcx kk (Zby [(Zbd key (54#8)), s]))))]))) (b := 1) (blk := dgB (Zcx kk (Zby [(Zbd key (92#8)), (Zk (dgL (Zcx kk (Zby [(Zbd key (54#8)), s]))))]))) (H' := [dgB key, dgB (Zcx kk (Zby [(Zbd key (92#8)), (Zk (dgL (Zcx kk (Zby [(Zbd key (54#8)), s]))))])), txB [(Zbd key (54#8)), s], dgB (Zcx kk (Zby [(Zbd key (54#8)), s])), Y2 kk key s]) ?_
  refine Zjp (by kernel_rfl) ?_
  refine Zc (Zs (Zu ?_))
  exact Zm (v := dgV (Zcx kk (Zby [(Zbd key (92#8)), (Zk (dgL (Zcx kk (Zby [(Zbd key (54#8)), s]))))]))) (by kernel_rfl) rfl rfl (by kernel_rfl) (Zc0 (Zcj fun _ => rfl) rfl)
theorem Z3m (a b : D) : Z9 Tryd.prog G 81 [dgV a, dgV b] [] (.bool (Zcg 32 a b)) [] := by
  refine Zbu (fn := Tryd.f81) (nt := 22) rfl rfl rfl rfl ?_
  refine Zaj 2 (H' := [hole, hole]) rfl ?_
  refine Ze (Zf (Zci (v := dgV a) (b := dgB a) (nid := 0) (H' := [dgB a, hole]) (Zci (v := dgV b) (b := dgB b) (nid := 1) (H' := [dgB a, dgB b]) (Zb (.bool false) (Za (Zc (Ze (Zf (Zb (w8 (0#8)) (Za (Zc (Ze (Ze (Zf (Zd (Iv 0) (Za (Zc (Z5 ?_))))))))))))))))))
  refine Zck (fun x : Nat × (BitVec 8) => match x with | (j, all) => [dgV a, dgV b, pt 0 0, pt 1 0, .bool false, w8 all, dead, Iv (j : Nat)]) (fun x : Nat × (BitVec 8) => match x with | (j, all) => [dgB a, dgB b]) (fun x : Nat × (BitVec 8) => match x with | (j, all) => all = Zv6 a b j ∧ j ≤ 32) (fun x : Nat × (BitVec 8) => match x with | (j, all) => 32 - j) (0, 0) ⟨rfl, by omega⟩ ?_ ?_
  · refine Zam (n := 2) rfl ?_ (by kernel_rfl) (by kernel_rfl)
    repeat (first | exact trivial | refine ⟨.inl rfl, ?_⟩ | refine ⟨.inr ⟨rfl, rfl⟩, ?_⟩ | refine ⟨.inr ⟨congrArg (Value.int .i64) (by first | omega | (dsimp only; omega)), rfl⟩, ?_⟩)
  rintro ⟨j, all⟩ ⟨ha, hj⟩
  dsimp only at *
  refine Ze (Zf ?_)
  by_cases h1 : (j : Nat) < 32
  refine Zj (vx := Iv (j : Nat)) (vy := Iv 32) rfl rfl (.bool true) rfl rfl (Zdd (by omega)) ?_
  refine Za (Zc (Ze (Zv rfl (Z0 (Zc (Ze (Z5 (Ze (Zf (Zd (Iv (j : Nat)) (Zb (Iv (j : Nat)) (Za (Zc ?_)))))))))))))
  refine Zer (by kernel_rfl) ?_
  refine Zd (w8 all) (Zd (Iv (j : Nat)) ?_)
  refine Zd0 (b := 0) (o := 0) (j := j) (n := 32) (sz := 1) (i := (j : Nat)) (k := .i64) rfl rfl rfl rfl rfl (by omega) (by omega) (by omega) ?_
  refine Zal (p := pt 0 j) (v := w8 (a j)) rfl rfl rfl (Ziw (blk := dgB a) (i := j) (enc := w8) (n := 32) (w := a) rfl rfl rfl (by omega) fun _ => rfl) ?_
  refine Zd (Iv (j : Nat)) ?_
  refine Zd0 (b := 1) (o := 0) (j := j) (n := 32) (sz := 1) (i := (j : Nat)) (k := .i64) rfl rfl rfl rfl rfl (by omega) (by omega) (by omega) ?_
  refine Zal (p := pt 1 j) (v := w8 (b j)) rfl rfl rfl (Ziw (blk := dgB b) (i := j) (enc := w8) (n := 32) (w := b) rfl rfl rfl (by omega) fun _ => rfl) ?_
  refine Zj (vx := w8 (a j)) (vy := w8 (b j)) rfl rfl (w8 ((a j) ^^^ (b j))) rfl rfl (Z7n (ofI _ _) (ofI _ _)) ?_
  refine Zj (vx := w8 all) (vy := w8 ((a j) ^^^ (b j))) rfl rfl (w8 (all ||| ((a j) ^^^ (b j)))) rfl rfl (or8 (ofI _ _) (ofI _ _)) ?_
  refine Zb (w8 (all ||| ((a j) ^^^ (b j)))) ?_
  refine Zdq (by kernel_rfl) ?_
  refine Zz (Zc (Zf ?_))
  refine Zj (vx := Iv (j : Nat)) (vy := Iv 1) rfl rfl (Iv ((j : Nat) + 1)) rfl rfl (Za0 (by omega) (by omega) (by omega)) ?_
  refine Zd (Iv ((j : Nat) + 1)) (Za ?_)
  refine Zas ⟨((j + 1), (all ||| ((a j) ^^^ (b j)))), ⟨Zy6 ha, by omega⟩, by show 32 - (j + 1) < 32 - j; omega, ?_⟩
  refine Zam (n := 2) rfl ?_ (by kernel_rfl) (by kernel_rfl)
  repeat (first | exact trivial | refine ⟨.inl rfl, ?_⟩ | refine ⟨.inr ⟨rfl, rfl⟩, ?_⟩ | refine ⟨.inr ⟨congrArg (Value.int .i64) (by first | omega | (dsimp only; omega)), rfl⟩, ?_⟩)
  refine Zj (vx := Iv (j : Nat)) (vy := Iv 32) rfl rfl (.bool false) rfl rfl (Zcw (by omega)) ?_
  refine Za (Zc (Ze (Zt rfl (Zbn (Zat (Za3 (Zay rfl (Zc (Ze (Zf (Zd (w8 all) ?_)))))))))))
  rcases Bool.eq_false_or_eq_true (all == 0#8) with h2 | h2
  refine Zj (vx := w8 all) (vy := w8 (0#8)) rfl rfl (.bool true) rfl rfl (Eq.trans Z6y (by rw [h2] <;> rfl)) ?_
  refine Zb (.bool true) (Za (Zc (Zs (Zu ?_))))
  rw [show Zcg 32 a b = true from by rw [← Zq9, ← show j = 32 by omega, ← ha]; exact h2]
  exact Zm (v := .bool true) rfl rfl rfl (by kernel_rfl) rfl
  refine Zj (vx := w8 all) (vy := w8 (0#8)) rfl rfl (.bool false) rfl rfl (Eq.trans Z6y (by rw [h2] <;> rfl)) ?_
  refine Zb (.bool false) (Za (Zc (Zs (Zu ?_))))
  rw [show Zcg 32 a b = false from by rw [← Zq9, ← show j = 32 by omega, ← ha]; exact h2]
  exact Zm (v := .bool false) rfl rfl rfl (by kernel_rfl) rfl
theorem Z0n (kk : Nat → BitVec 32) (hG : G 0 = some (Z6 w32 64 kk)) (master : D) (region node : Int)  : Z9 Tryd.prog G 24 [dgV master, Iv region, Iv node] [] (.tuple #[dgV (Zbr kk master region node).1, Iv (Zbr kk master region node).2]) [] := by
 refine Zbu (fn := Tryd.f24) (nt := 31) rfl rfl rfl rfl ?_
 refine Zaj 3 (H' := [hole, hole, hole]) rfl ?_
 refine Ze (Zf (Zci (v := dgV master) (b := dgB master) (nid := 0) (H' := [dgB master, hole, hole]) (Zai (b := dgB dz) (nid := 1) (H' := [dgB master, dgB dz, hole]) (Zb (Iv 0) (Za (Zc (Ze (Ze (Zf (Zd (Iv region) ?_))))))))))
 by_cases h1 : region < 1
 refine Zj (vx := Iv region) (vy := Iv 1) rfl rfl (.bool true) rfl rfl (Zdd (by omega)) ?_
 refine Zd (.bool true) (Zg (Zg (Zl (.bool true) (Zd (.bool true) (Zg (Zg (Zl (.bool true) (Zd (.bool true) (Zg (Zg (Zl (.bool true) (Za (Zc (Zv rfl (Ze (Zf ?_))))))))))))))))
 refine Zbm (vs := []) (v := dgV dz) rfl rfl rfl (by kernel_rfl) ?_
 refine Z2 (p := pt 1 0) (v := dgV dz) (b := 1) (blk := dgB dz) (H' := [dgB master, dgB dz, hole]) (Zb (Iv 50) (Za (Zc (Zs (Zaa (Zu ?_))))))
 rw [show Zbr kk master region node = (dz, 50) from if_neg (by omega)]
 exact Zm (v := .tuple #[dgV dz, Iv 50]) (by kernel_rfl) rfl rfl (by kernel_rfl) ⟨(Zc0 (Zcj fun _ => rfl) rfl), rfl, trivial⟩
 refine Zj (vx := Iv region) (vy := Iv 1) rfl rfl (.bool false) rfl rfl (Zcw (by omega)) ?_
 refine Zd (.bool false) (Zd (Iv region) ?_)
 by_cases h2 : 5 < region
 refine Zj (vx := Iv region) (vy := Iv 5) rfl rfl (.bool true) rfl rfl (Ze3 (by omega)) ?_
 refine Zl (.bool true) (Zd (.bool true) (Zg (Zg (Zl (.bool true) (Zd (.bool true) (Zg (Zg (Zl (.bool true) (Za (Zc (Zv rfl (Ze (Zf ?_)))))))))))))
 refine Zbm (vs := []) (v := dgV dz) rfl rfl rfl (by kernel_rfl) ?_
 refine Z2 (p := pt 1 0) (v := dgV dz) (b := 1) (blk := dgB dz) (H' := [dgB master, dgB dz, hole]) (Zb (Iv 50) (Za (Zc (Zs (Zaa (Zu ?_))))))
 rw [show Zbr kk master region node = (dz, 50) from if_neg (by omega)]
 exact Zm (v := .tuple #[dgV dz, Iv 50]) (by kernel_rfl) rfl rfl (by kernel_rfl) ⟨(Zc0 (Zcj fun _ => rfl) rfl), rfl, trivial⟩
 refine Zj (vx := Iv region) (vy := Iv 5) rfl rfl (.bool false) rfl rfl (Ze2 (by omega)) ?_
 refine Zl (.bool false) (Zd (.bool false) (Zd (Iv node) ?_))
 by_cases h3 : node < 1
 refine Zj (vx := Iv node) (vy := Iv 1) rfl rfl (.bool true) rfl rfl (Zdd (by omega)) ?_
 refine Zl (.bool true) (Zd (.bool true) (Zg (Zg (Zl (.bool true) (Za (Zc (Zv rfl (Ze (Zf ?_)))))))))
 refine Zbm (vs := []) (v := dgV dz) rfl rfl rfl (by kernel_rfl) ?_
 refine Z2 (p := pt 1 0) (v := dgV dz) (b := 1) (blk := dgB dz) (H' := [dgB master, dgB dz, hole]) (Zb (Iv 50) (Za (Zc (Zs (Zaa (Zu ?_))))))
 rw [show Zbr kk master region node = (dz, 50) from if_neg (by omega)]
 exact Zm (v := .tuple #[dgV dz, Iv 50]) (by kernel_rfl) rfl rfl (by kernel_rfl) ⟨(Zc0 (Zcj fun _ => rfl) rfl), rfl, trivial⟩
 refine Zj (vx := Iv node) (vy := Iv 1) rfl rfl (.bool false) rfl rfl (Zcw (by omega)) ?_
 refine Zl (.bool false) (Zd (.bool false) (Zd (Iv node) ?_))
 by_cases h4 : 3 < node
 refine Zj (vx := Iv node) (vy := Iv 3) rfl rfl (.bool true) rfl rfl (Ze3 (by omega)) ?_
 refine Zl (.bool true) (Za (Zc (Zv rfl (Ze (Zf ?_)))))
 refine Zbm (vs := []) (v := dgV dz) rfl rfl rfl (by kernel_rfl) ?_
 refine Z2 (p := pt 1 0) (v := dgV dz) (b := 1) (blk := dgB dz) (H' := [dgB master, dgB dz, hole]) (Zb (Iv 50) (Za (Zc (Zs (Zaa (Zu ?_))))))
 rw [show Zbr kk master region node = (dz, 50) from if_neg (by omega)]
 exact Zm (v := .tuple #[dgV dz, Iv 50]) (by kernel_rfl) rfl rfl (by kernel_rfl) ⟨(Zc0 (Zcj fun _ => rfl) rfl), rfl, trivial⟩
 refine Zj (vx := Iv node) (vy := Iv 3) rfl rfl (.bool false) rfl rfl (Ze2 (by omega)) ?_
 refine Zl (.bool false) (Za (Zc (Zt rfl (Z0 (Zc (Ze (Zf (Zn (p := pt 0 0) (v := dgV master) (Zd (Iv region) ?_)))))))))
 refine Zdm (w := Iv region) (v := w8 (BitVec.ofInt 8 region)) rfl rfl rfl (Zgl rfl rfl rfl) ?_
 refine Zd (Iv node) ?_
 refine Zdm (w := Iv node) (v := w8 (BitVec.ofInt 8 node)) rfl rfl rfl (Zgl rfl rfl rfl) ?_
 refine Zel (vs := [(0, w8 (75#8)), (1, w8 (BitVec.ofInt 8 region)), (2, w8 (BitVec.ofInt 8 node))]) (v := slv 2 0 3 3) (blk := Zar [75#8, (BitVec.ofInt 8 region), (BitVec.ofInt 8 node)]) (nid := 2) (H' := [dgB master, dgB dz, Zar [75#8, (BitVec.ofInt 8 region), (BitVec.ofInt 8 node)]]) rfl rfl rfl (by kernel_rfl) (by kernel_rfl) ?_
 refine Zfs (p := slv 2 0 3 3) (v := .string (Zk [75#8, (BitVec.ofInt 8 region), (BitVec.ofInt 8 node)])) rfl rfl rfl (Zft rfl rfl rfl rfl rfl (by have := (rfl : _ = 3); omega)) ?_
 refine Zp (Zvx (G := G) kk hG master (Zk [75#8, (BitVec.ofInt 8 region), (BitVec.ofInt 8 node)]) (by simp [Za6])) (vals := [dgV master, .string (Zk [75#8, (BitVec.ofInt 8 region), (BitVec.ofInt 8 node)])]) (res' := dgV (Zf4 kk master (Zk [75#8, (BitVec.ofInt 8 region), (BitVec.ofInt 8 node)]))) rfl rfl rfl rfl rfl (by kernel_rfl) ?_
 refine Z2 (p := pt 1 0) (v := dgV (Zf4 kk master (Zk [75#8, (BitVec.ofInt 8 region), (BitVec.ofInt 8 node)]))) (b := 1) (blk := dgB (Zf4 kk master (Zk [75#8, (BitVec.ofInt 8 region), (BitVec.ofInt 8 node)]))) (H' := [dgB master, dgB (Zf4 kk master (Zk [75#8, (BitVec.ofInt 8 region), (BitVec.ofInt 8 node)])), Zar [75#8, (BitVec.ofInt 8 region), (BitVec.ofInt 8 node)]]) (Zb (Iv 0) (Za (Zc (Zs (Zu ?_)))))
 rw [show Zbr kk master region node = ((Zf4 kk master (Zk [75#8, (BitVec.ofInt 8 region), (BitVec.ofInt 8 node)])), 0) from if_pos (by omega)]
 exact Zm (v := .tuple #[dgV (Zf4 kk master (Zk [75#8, (BitVec.ofInt 8 region), (BitVec.ofInt 8 node)])), Iv 0]) (by kernel_rfl) rfl rfl (by kernel_rfl) ⟨(Zc0 (Zcj fun _ => rfl) rfl), rfl, trivial⟩
def Zf9 (kk : Nat → BitVec 32) (master : D) (region node : Int) (s : ByteArray) (t : D) : Int :=
  if ((Zbr kk master region node).2) ≠ 0 then ((Zbr kk master region node).2) else
  if Zcg 32 (Zf4 kk ((Zbr kk master region node).1) s) t = true then 0 else
  72
theorem Z0l (kk : Nat → BitVec 32) (hG : G 0 = some (Z6 w32 64 kk)) (master : D) (region node : Int) (s : ByteArray) (t : D) (hs : s.size ≤ 1048576) : Z9 Tryd.prog G 68 [dgV master, Iv region, Iv node, .string s, dgV t] [] (Iv (Zf9 kk master region node s t)) [] := by
 refine Zbu (fn := Tryd.f68) (nt := 31) rfl rfl rfl rfl ?_
 refine Zaj 3 (H' := [hole, hole, hole]) rfl ?_
 refine Ze (Zf (Zci (v := dgV master) (b := dgB master) (nid := 0) (H' := [dgB master, hole, hole]) (Zci (v := dgV t) (b := dgB t) (nid := 1) (H' := [dgB master, dgB t, hole]) (Zb (Iv 0) (Za (Zc (Ze (Zf (Zn (p := pt 0 0) (v := dgV master) (Zd (Iv region) (Zd (Iv node) ?_)))))))))))
 refine Zp (Z0n (G := G) kk hG master region node) (vals := [dgV master, Iv region, Iv node]) (res' := .tuple #[dgV ((Zbr kk master region node).1), Iv ((Zbr kk master region node).2)]) rfl rfl rfl rfl rfl (by kernel_rfl) ?_
 refine Zd (.tuple #[dgV ((Zbr kk master region node).1), Iv ((Zbr kk master region node).2)]) (Zq (vs := #[dgV ((Zbr kk master region node).1), Iv ((Zbr kk master region node).2)]) (v := dgV ((Zbr kk master region node).1)) (Zq (vs := #[dgV ((Zbr kk master region node).1), Iv ((Zbr kk master region node).2)]) (v := Iv ((Zbr kk master region node).2)) (Zai (b := dgB dz) (nid := 2) (H' := [dgB master, dgB t, dgB dz]) (Z2 (p := pt 2 0) (v := dgV ((Zbr kk master region node).1)) (b := 2) (blk := dgB ((Zbr kk master region node).1)) (H' := [dgB master, dgB t, dgB ((Zbr kk master region node).1)]) (Zb (Iv ((Zbr kk master region node).2)) (Za (Zc (Ze (Z5 (Ze (Zf (Zd (Iv ((Zbr kk master region node).2)) ?_))))))))))))
 by_cases h1 : ((Zbr kk master region node).2) ≠ 0
 refine Zj (vx := Iv ((Zbr kk master region node).2)) (vy := Iv 0) rfl rfl (.bool true) rfl rfl (Zek (by omega)) ?_
 refine Zb (.bool true) (Za (Zc (Zv rfl (Ze (Zf (Zd (Iv ((Zbr kk master region node).2)) (Zb (Iv ((Zbr kk master region node).2)) (Za (Zc (Zs (Zct (Zaa (Zu ?_)))))))))))))
 rw [show Zf9 kk master region node s t = ((Zbr kk master region node).2) from by unfold Zf9; rw [if_pos h1]]
 exact Zm (v := Iv ((Zbr kk master region node).2)) rfl rfl rfl (by kernel_rfl) rfl
 refine Zj (vx := Iv ((Zbr kk master region node).2)) (vy := Iv 0) rfl rfl (.bool false) rfl rfl (Zd6 (by omega)) ?_
 refine Zb (.bool false) (Za (Zc (Zt rfl (Ze ?_))))
 refine Zku (by kernel_rfl) ?_
 refine Zn (p := pt 2 0) (v := dgV ((Zbr kk master region node).1)) (Zd (.string s) ?_)
 refine Zp (Zvx (G := G) kk hG ((Zbr kk master region node).1) s hs) (vals := [dgV ((Zbr kk master region node).1), .string s]) (res' := dgV (Zf4 kk ((Zbr kk master region node).1) s)) rfl rfl rfl rfl rfl (by kernel_rfl) ?_
 refine Zn (p := pt 1 0) (v := dgV t) ?_
 refine Zp (Z3m (G := G) (Zf4 kk ((Zbr kk master region node).1) s) t) (vals := [dgV (Zf4 kk ((Zbr kk master region node).1) s), dgV t]) (res' := .bool (Zcg 32 (Zf4 kk ((Zbr kk master region node).1) s) t)) rfl rfl rfl rfl rfl rfl ?_
 rcases Bool.eq_false_or_eq_true (Zcg 32 (Zf4 kk ((Zbr kk master region node).1) s) t) with h2 | h2
 refine Zi1 (vx := .bool (Zcg 32 (Zf4 kk ((Zbr kk master region node).1) s) t)) rfl rfl (.bool false) rfl (Eq.trans Zeu (congrArg (fun b => some (Value.bool !b)) h2)) ?_
 refine Zb (.bool false) ?_
 refine Zjp (by kernel_rfl) ?_
 refine Zc (Zt rfl (Z0 (Zz (Zc (Ze (Zf (Zb (Iv 0) (Za (Zc (Zs (Zu ?_)))))))))))
 rw [show Zf9 kk master region node s t = 0 from by unfold Zf9; rw [if_neg h1, if_pos h2]]
 exact Zm (v := Iv 0) rfl rfl rfl (by kernel_rfl) rfl
 refine Zi1 (vx := .bool (Zcg 32 (Zf4 kk ((Zbr kk master region node).1) s) t)) rfl rfl (.bool true) rfl (Eq.trans Zeu (congrArg (fun b => some (Value.bool !b)) h2)) ?_
 refine Zb (.bool true) ?_
 refine Zjp (by kernel_rfl) ?_
 refine Zc (Zv rfl (Ze (Zf (Zb (Iv 72) (Za (Zc (Zs (Zct (Zaa (Zu ?_))))))))))
 rw [show Zf9 kk master region node s t = 72 from by unfold Zf9; rw [if_neg h1, if_neg (by rw [h2]; decide)]]
 exact Zm (v := Iv 72) rfl rfl rfl (by kernel_rfl) rfl
end Go.Flat
