/- Walks. -/
import Derived.Test.YtfjkagjbanhdlaaGreatDoorH4
set_option linter.unusedVariables false
set_option linter.unusedSimpArgs false
set_option maxRecDepth 20000
namespace Go.Flat
open Go.Proofs
variable {G : Glob}
def Z2q (key : D) : D := fun i => if i < 32 then key i else 0
def Zq4 (c : D) (x : BitVec 8) (j : Nat) : D := fun i => if i < j then c i ^^^ x else c i
theorem Zxy (c : D) (x : BitVec 8) : Zq4 c x 0 = c := by funext i; simp [Zq4]
theorem Zxn {c d : D} {x : BitVec 8} {j : Nat} (h : d = Zq4 c x j) : Zfg d j (d j ^^^ x) = Zq4 c x (j + 1) := by
 subst h
 funext i
 unfold Zfg Zq4
 by_cases hi : i = j
 ·subst hi; simp
 ·simp only [if_neg hi]
  by_cases h1 : i < j
  ·rw [if_pos h1, if_pos (by omega)]
  ·rw [if_neg h1, if_neg (by omega)]
def Zbx (key : D) (x : BitVec 8) : ByteArray := Zm (Zih 64 (Zq4 (Z2q key) x 64))
theorem Zi1 (key : D) (x : BitVec 8) : (Zbx key x).size = 64 := by unfold Zbx; rw [Za1, Zjh]
def Zgz (kk : Nat → BitVec 32) (key : D) (s : ByteArray) : D := Zcq kk (Zch [Zbx key 92#8, Zm (dgL (Zcq kk (Zch [Zbx key 54#8, s])))])
def Zyt (a b : D) : Nat → BitVec 8
  | 0 => 0
  | j + 1 => Zyt a b j ||| (a j ^^^ b j)
theorem Z02 {a b : D} {all : BitVec 8} {j : Nat} (h : all = Zyt a b j) : (all ||| (a j ^^^ b j)) = Zyt a b (j + 1) := by subst h; rfl
theorem Z5a (x y : BitVec 8) : (x ||| y == 0#8) = ((x == 0#8) && (y == 0#8)) := by
 rw [Bool.eq_iff_iff, Bool.and_eq_true, beq_iff_eq, beq_iff_eq, beq_iff_eq]
 constructor
 ·intro h
  constructor
  ·apply BitVec.eq_of_getLsbD_eq; intro i hi; have := congrArg (fun z => z.getLsbD i) h; simp at this ⊢; exact this.1
  ·apply BitVec.eq_of_getLsbD_eq; intro i hi; have := congrArg (fun z => z.getLsbD i) h; simp at this ⊢; exact this.2
 ·rintro ⟨rfl, rfl⟩; rfl
theorem Z19 (x y : BitVec 8) : (x ^^^ y == 0#8) = (x == y) := by
 rw [Bool.eq_iff_iff, beq_iff_eq, beq_iff_eq]
 constructor
 ·intro h; exact BitVec.xor_eq_zero_iff.1 h
 ·rintro rfl; exact BitVec.xor_self
theorem Zvj (a b : D) : ∀ j, (Zyt a b j == 0#8) = (List.range j).all fun i => a i == b i
 | 0 => rfl
 | j + 1 => by
  rw [Zyt, Z5a, Z19, Zvj a b j, List.range_succ, List.all_append]; simp
theorem Zsm (a b : D) : (Zyt a b 32 == 0#8) = Zcv 32 a b := Zvj a b 32
def Zci (kk : Nat → BitVec 32) (master : D) (region node : Int) : D × Int := if (1 ≤ region ∧ region ≤ 5) ∧ (1 ≤ node ∧ node ≤ 3) then (Zgz kk master (Zm [75#8, BitVec.ofInt 8 region, BitVec.ofInt 8 node]), 0) else (dz, 50)
theorem Znk (key : D) (u : BitVec 8) : Z6 Tryz.prog G 97 [dgV key, w8 u] [] (.string (Zbx key u)) [] := by
  refine Za8 (fn := Tryz.f97) (nt := 22) rfl rfl rfl rfl ?_
  refine Zaa 2 (H' := [hole, hole]) rfl ?_
  refine Zf (Zg (Zbq (v := dgV key) (b := dgB key) (nid := 0) (H' := [dgB key, hole]) (Zb (.string ⟨#[]⟩) (Za (Zc (Zf (Zg (Zam (b := bxB 64 (Zag w8 64 dz)) (nid := 1) (H' := [dgB key, bxB 64 (Zag w8 64 dz)]) (Za (Zc (Zf ?_)))))))))))
  refine Zc1 (by kernel_rfl) ?_
  refine Zc7 (p := pt 1 0) (vl := none) (vh := none) (v := slv 1 0 64 64) rfl rfl rfl rfl rfl rfl ?_
  refine Zc7 (p := pt 0 0) (vl := none) (vh := none) (v := slv 0 0 32 32) rfl rfl rfl rfl rfl rfl ?_
  refine Z47 (p := slv 1 0 64 64) (q := slv 0 0 32 32) (v := Iv 32) (b := 1) (blk := bxB 64 (Zag w8 64 (Z2q key))) (H' := [dgB key, bxB 64 (Zag w8 64 (Z2q key))]) rfl rfl rfl rfl (by kernel_rfl) (by kernel_rfl) ?_
  refine Zb3 (by kernel_rfl) ?_
  refine Zc (Zf (Zf (Zg (Zd (Iv 0) (Za (Zc (Z1 ?_)))))))
  refine Zbg (fun x : Nat × D => match x with | (j, d) => [dgV key, w8 u, pt 0 0, dead, .string ⟨#[]⟩, pt 1 0, dead, slv 1 0 64 64, slv 0 0 32 32, Iv 32, Iv (j : Nat)]) (fun x : Nat × D => match x with | (j, d) => [dgB key, bxB 64 (Zag w8 64 d)]) (fun x : Nat × D => match x with | (j, d) => d = Zq4 (Z2q key) u j ∧ j ≤ 64) (fun x : Nat × D => match x with | (j, d) => 64 - j) (0, (Z2q key)) ⟨(Zxy _ _).symm, by omega⟩ ?_ ?_
  · refine Z5 (n := 2) rfl ?_ (by kernel_rfl) (by kernel_rfl)
    repeat (first | exact trivial | refine ⟨.inl rfl, ?_⟩ | refine ⟨.inr ⟨rfl, rfl⟩, ?_⟩ | refine ⟨.inr ⟨congrArg (Value.int .i64) (by first | omega | (dsimp only; omega)), rfl⟩, ?_⟩)
  rintro ⟨j, d⟩ ⟨hd, hj⟩
  dsimp only at *
  refine Zf (Zg ?_)
  by_cases h1 : (j : Nat) < 64
  refine Zl (vx := Iv (j : Nat)) (vy := Iv 64) rfl rfl (.bool true) rfl rfl (Zcc (by omega)) ?_
  refine Za (Zc (Zf (Zx rfl (Z0 (Zc (Zf (Z1 (Zf (Zg (Zd (Iv (j : Nat)) (Zb (Iv (j : Nat)) (Za (Zc (Zg (Zd (Iv (j : Nat)) ?_)))))))))))))))
  refine Zbw (b := 1) (o := 0) (j := j) (n := 64) (sz := 1) (i := (j : Nat)) (k := .i64) rfl rfl rfl rfl rfl (by omega) (by omega) (by omega) ?_
  refine Zad (p := pt 1 j) (v := w8 (d j)) rfl rfl rfl (Zee (blk := bxB 64 (Zag w8 64 d)) (i := j) (enc := w8) (n := 64) (w := d) rfl rfl rfl (by omega) fun _ => rfl) ?_
  refine Zd (w8 u) ?_
  refine Zl (vx := w8 (d j)) (vy := w8 u) rfl rfl (w8 ((d j) ^^^ u)) rfl rfl (xor8 (ofI _ _) (ofI _ _)) ?_
  refine Zbw (b := 1) (o := 0) (j := j) (n := 64) (sz := 1) (i := (j : Nat)) (k := .i64) rfl rfl rfl rfl rfl (by omega) (by omega) (by omega) ?_
  refine Zay (p := pt 1 j) (v := w8 ((d j) ^^^ u)) (b := 1) (blk := bxB 64 (Zag w8 64 (Zfg d j ((d j) ^^^ u)))) (H' := [dgB key, bxB 64 (Zag w8 64 (Zfg d j ((d j) ^^^ u)))]) rfl rfl rfl (Zfb (blk := bxB 64 (Zag w8 64 d)) (i := j) (enc := w8) (n := 64) (w := d) (x := ((d j) ^^^ u)) rfl rfl rfl rfl rfl (by omega) rfl rfl) (by kernel_rfl) ?_
  refine Za (Z4 (Zc (Zg ?_)))
  refine Zl (vx := Iv (j : Nat)) (vy := Iv 1) rfl rfl (Iv ((j : Nat) + 1)) rfl rfl (Za3 (by omega) (by omega) (by omega)) ?_
  refine Zd (Iv ((j : Nat) + 1)) (Za ?_)
  refine Zao ⟨((j + 1), (Zfg d j ((d j) ^^^ u))), ⟨Zxn hd, by omega⟩, by show 64 - (j + 1) < 64 - j; omega, ?_⟩
  refine Z5 (n := 2) rfl ?_ (by kernel_rfl) (by kernel_rfl)
  repeat (first | exact trivial | refine ⟨.inl rfl, ?_⟩ | refine ⟨.inr ⟨rfl, rfl⟩, ?_⟩ | refine ⟨.inr ⟨congrArg (Value.int .i64) (by first | omega | (dsimp only; omega)), rfl⟩, ?_⟩)
  refine Zl (vx := Iv (j : Nat)) (vy := Iv 64) rfl rfl (.bool false) rfl rfl (Zb5 (by omega)) ?_
  refine Za (Zc (Zf (Zu rfl (Zbb (Zaq (Zau (Zax rfl (Zc (Zf (Zg ?_))))))))))
  refine Zc7 (p := pt 1 0) (vl := none) (vh := none) (v := slv 1 0 64 64) rfl rfl rfl rfl rfl rfl ?_
  refine Ze2 (p := slv 1 0 64 64) (v := .string (Zm (Zih 64 d))) rfl rfl rfl (Zem (l := (Zih 64 d)) rfl rfl rfl rfl (of_decide_eq_true (by kernel_rfl)) (by kernel_rfl)) ?_
  refine Zb (.string (Zm (Zih 64 d))) (Za (Zc (Zq (Zr ?_))))
  rw [show Zbx key u = Zm (Zih 64 d) from by rw [hd, show j = 64 by omega]; rfl]
  exact Zk (v := .string (Zm (Zih 64 d))) rfl rfl rfl (by kernel_rfl) rfl
abbrev Y2 (kk : Nat → BitVec 32) (key : D) (s : ByteArray) : Blk := txB [(Zbx key (92#8)), (Zm (dgL (Zcq kk (Zch [(Zbx key (54#8)), s]))))]
theorem Zxs (kk : Nat → BitVec 32) (hG : G 3 = some (Zag w32 64 kk)) (key : D) (s : ByteArray) (hs : s.size ≤ 1048576) : Z6 Tryz.prog G 72 [dgV key, .string s] [] (dgV (Zgz kk key s)) [] := by
  refine Za8 (fn := Tryz.f72) (nt := 17) rfl rfl rfl rfl ?_
  refine Zaa 5 (H' := [hole, hole, hole, hole, hole]) rfl ?_
  refine Zf (Zg (Zbq (v := dgV key) (b := dgB key) (nid := 0) (H' := [dgB key, hole, hole, hole, hole]) (Zam (b := dgB dz) (nid := 1) (H' := [dgB key, dgB dz, hole, hole, hole]) (Za (Zc (Zf (Zg (Zp (p := pt 0 0) (v := dgV key) ?_))))))))
  refine Zo (Znk (G := G) key (54#8)) (vals := [dgV key, w8 (54#8)]) (res' := .string (Zbx key (54#8))) rfl rfl rfl rfl rfl rfl ?_
  refine Zd (.string s) ?_
  refine Zdb (vs := [(0, .string (Zbx key (54#8))), (1, .string s)]) (v := slv 2 0 2 2) (blk := txB [(Zbx key (54#8)), s]) (nid := 2) (H' := [dgB key, dgB dz, txB [(Zbx key (54#8)), s], hole, hole]) rfl rfl rfl (by kernel_rfl) (by kernel_rfl) ?_
  refine Z2 (e := [some (2, 0)]) (nid := 0) (Zvv (G := G) kk hG [(Zbx key (54#8)), s] 2 (by simp) (by simp [Zi1, Za1, Zfc]; try omega)) (vals := [slv 2 0 2 2]) (v := dgV (Zcq kk (Zch [(Zbx key (54#8)), s]))) (H' := [dgB key, dgB dz, txB [(Zbx key (54#8)), s], hole, hole]) rfl rfl rfl rfl rfl rfl rfl ⟨⟨⟨rfl, rfl, rfl, by first | omega | exact Nat.le_refl _, by first | omega | exact Nat.le_refl _⟩, trivial⟩, ⟨(Zmt rfl), trivial⟩, rfl, rfl, rfl⟩ (by kernel_rfl) (by kernel_rfl) ?_
  refine Zam (b := dgB dz) (nid := 3) (H' := [dgB key, dgB dz, txB [(Zbx key (54#8)), s], dgB dz, hole]) (Z7 (p := pt 3 0) (v := dgV (Zcq kk (Zch [(Zbx key (54#8)), s]))) (b := 3) (blk := dgB (Zcq kk (Zch [(Zbx key (54#8)), s]))) (H' := [dgB key, dgB dz, txB [(Zbx key (54#8)), s], dgB (Zcq kk (Zch [(Zbx key (54#8)), s])), hole]) (Za (Zc (Zf ?_))))
  refine Zgc (by kernel_rfl) ?_
  refine Zp (p := pt 0 0) (v := dgV key) ?_
  refine Zo (Znk (G := G) key (92#8)) (vals := [dgV key, w8 (92#8)]) (res' := .string (Zbx key (92#8))) rfl rfl rfl rfl rfl rfl ?_
  refine Zc7 (p := pt 3 0) (vl := none) (vh := none) (v := slv 3 0 32 32) rfl rfl rfl rfl rfl rfl ?_
  refine Ze2 (p := slv 3 0 32 32) (v := .string (Zm (dgL (Zcq kk (Zch [(Zbx key (54#8)), s]))))) rfl rfl rfl (Zem (l := (dgL (Zcq kk (Zch [(Zbx key (54#8)), s])))) rfl rfl rfl rfl (of_decide_eq_true (by kernel_rfl)) (by kernel_rfl)) ?_
  refine Zdb (vs := [(0, .string (Zbx key (92#8))), (1, .string (Zm (dgL (Zcq kk (Zch [(Zbx key (54#8)), s])))))]) (v := slv 4 0 2 2) (blk := txB [(Zbx key (92#8)), (Zm (dgL (Zcq kk (Zch [(Zbx key (54#8)), s]))))]) (nid := 4) (H' := [dgB key, dgB dz, txB [(Zbx key (54#8)), s], dgB (Zcq kk (Zch [(Zbx key (54#8)), s])), Y2 kk key s]) rfl rfl rfl (by kernel_rfl) (by kernel_rfl) ?_
  refine Z2 (e := [some (4, 0)]) (nid := 0) (Zvv (G := G) kk hG [(Zbx key (92#8)), (Zm (dgL (Zcq kk (Zch [(Zbx key (54#8)), s]))))] 2 (by simp) (by simp [Zi1, Za1, Zfc]; try omega)) (vals := [slv 4 0 2 2]) (v := dgV (Zcq kk (Zch [(Zbx key (92#8)), (Zm (dgL (Zcq kk (Zch [(Zbx key (54#8)), s]))))]))) (H' := [dgB key, dgB dz, txB [(Zbx key (54#8)), s], dgB (Zcq kk (Zch [(Zbx key (54#8)), s])), Y2 kk key s]) rfl rfl rfl rfl rfl rfl rfl ⟨⟨⟨rfl, rfl, rfl, by first | omega | exact Nat.le_refl _, by first | omega | exact Nat.le_refl _⟩, trivial⟩, ⟨(Zmt rfl), trivial⟩, rfl, rfl, rfl⟩ (by kernel_rfl) (by kernel_rfl) ?_
  refine Z7 (p := pt 1 0) (v := dgV (Zcq kk (Zch [(Zbx key (92#8)), (Zm (dgL (Zcq kk (Zch [(Zbx key (54#8)), s]))))]))) (b := 1) (blk := dgB (Zcq kk (Zch [(Zbx key (92#8)), (Zm (dgL (Zcq kk (Zch [(Zbx key (54#8)), s]))))]))) (H' := [dgB key, dgB (Zcq kk (Zch [(Zbx key (92#8)), (Zm (dgL (Zcq kk (Zch [(Zbx key (54#8)), s]))))])), txB [(Zbx key (54#8)), s], dgB (Zcq kk (Zch [(Zbx key (54#8)), s])), Y2 kk key s]) ?_
  refine Zeu (by kernel_rfl) ?_
  refine Zc (Zq (Zr ?_))
  exact Zk (v := dgV (Zcq kk (Zch [(Zbx key (92#8)), (Zm (dgL (Zcq kk (Zch [(Zbx key (54#8)), s]))))]))) (by kernel_rfl) rfl rfl (by kernel_rfl) (Zbm (Zbu fun _ => rfl) rfl)
theorem Z6l (a b : D) : Z6 Tryz.prog G 98 [dgV a, dgV b] [] (.bool (Zcv 32 a b)) [] := by
  refine Za8 (fn := Tryz.f98) (nt := 22) rfl rfl rfl rfl ?_
  refine Zaa 2 (H' := [hole, hole]) rfl ?_
  refine Zf (Zg (Zbq (v := dgV a) (b := dgB a) (nid := 0) (H' := [dgB a, hole]) (Zbq (v := dgV b) (b := dgB b) (nid := 1) (H' := [dgB a, dgB b]) (Zb (.bool false) (Za (Zc (Zf (Zg (Zb (w8 (0#8)) (Za (Zc (Zf (Zf (Zg (Zd (Iv 0) (Za (Zc (Z1 ?_))))))))))))))))))
  refine Zbg (fun x : Nat × (BitVec 8) => match x with | (j, all) => [dgV a, dgV b, pt 0 0, pt 1 0, .bool false, w8 all, dead, Iv (j : Nat)]) (fun x : Nat × (BitVec 8) => match x with | (j, all) => [dgB a, dgB b]) (fun x : Nat × (BitVec 8) => match x with | (j, all) => all = Zyt a b j ∧ j ≤ 32) (fun x : Nat × (BitVec 8) => match x with | (j, all) => 32 - j) (0, 0) ⟨rfl, by omega⟩ ?_ ?_
  · refine Z5 (n := 2) rfl ?_ (by kernel_rfl) (by kernel_rfl)
    repeat (first | exact trivial | refine ⟨.inl rfl, ?_⟩ | refine ⟨.inr ⟨rfl, rfl⟩, ?_⟩ | refine ⟨.inr ⟨congrArg (Value.int .i64) (by first | omega | (dsimp only; omega)), rfl⟩, ?_⟩)
  rintro ⟨j, all⟩ ⟨ha, hj⟩
  dsimp only at *
  refine Zf (Zg ?_)
  by_cases h1 : (j : Nat) < 32
  refine Zl (vx := Iv (j : Nat)) (vy := Iv 32) rfl rfl (.bool true) rfl rfl (Zcc (by omega)) ?_
  refine Za (Zc (Zf (Zx rfl (Z0 (Zc (Zf (Z1 (Zf (Zg (Zd (Iv (j : Nat)) (Zb (Iv (j : Nat)) (Za (Zc ?_)))))))))))))
  refine Zc1 (by kernel_rfl) ?_
  refine Zd (w8 all) (Zd (Iv (j : Nat)) ?_)
  refine Zbw (b := 0) (o := 0) (j := j) (n := 32) (sz := 1) (i := (j : Nat)) (k := .i64) rfl rfl rfl rfl rfl (by omega) (by omega) (by omega) ?_
  refine Zad (p := pt 0 j) (v := w8 (a j)) rfl rfl rfl (Zee (blk := dgB a) (i := j) (enc := w8) (n := 32) (w := a) rfl rfl rfl (by omega) fun _ => rfl) ?_
  refine Zd (Iv (j : Nat)) ?_
  refine Zbw (b := 1) (o := 0) (j := j) (n := 32) (sz := 1) (i := (j : Nat)) (k := .i64) rfl rfl rfl rfl rfl (by omega) (by omega) (by omega) ?_
  refine Zad (p := pt 1 j) (v := w8 (b j)) rfl rfl rfl (Zee (blk := dgB b) (i := j) (enc := w8) (n := 32) (w := b) rfl rfl rfl (by omega) fun _ => rfl) ?_
  refine Zl (vx := w8 (a j)) (vy := w8 (b j)) rfl rfl (w8 ((a j) ^^^ (b j))) rfl rfl (xor8 (ofI _ _) (ofI _ _)) ?_
  refine Zl (vx := w8 all) (vy := w8 ((a j) ^^^ (b j))) rfl rfl (w8 (all ||| ((a j) ^^^ (b j)))) rfl rfl (or8 (ofI _ _) (ofI _ _)) ?_
  refine Zb (w8 (all ||| ((a j) ^^^ (b j)))) ?_
  refine Zb3 (by kernel_rfl) ?_
  refine Z4 (Zc (Zg ?_))
  refine Zl (vx := Iv (j : Nat)) (vy := Iv 1) rfl rfl (Iv ((j : Nat) + 1)) rfl rfl (Za3 (by omega) (by omega) (by omega)) ?_
  refine Zd (Iv ((j : Nat) + 1)) (Za ?_)
  refine Zao ⟨((j + 1), (all ||| ((a j) ^^^ (b j)))), ⟨Z02 ha, by omega⟩, by show 32 - (j + 1) < 32 - j; omega, ?_⟩
  refine Z5 (n := 2) rfl ?_ (by kernel_rfl) (by kernel_rfl)
  repeat (first | exact trivial | refine ⟨.inl rfl, ?_⟩ | refine ⟨.inr ⟨rfl, rfl⟩, ?_⟩ | refine ⟨.inr ⟨congrArg (Value.int .i64) (by first | omega | (dsimp only; omega)), rfl⟩, ?_⟩)
  refine Zl (vx := Iv (j : Nat)) (vy := Iv 32) rfl rfl (.bool false) rfl rfl (Zb5 (by omega)) ?_
  refine Za (Zc (Zf (Zu rfl (Zbb (Zaq (Zau (Zax rfl (Zc (Zf (Zg (Zd (w8 all) ?_)))))))))))
  rcases Bool.eq_false_or_eq_true (all == 0#8) with h2 | h2
  refine Zl (vx := w8 all) (vy := w8 (0#8)) rfl rfl (.bool true) rfl rfl (Eq.trans eqlW (by rw [h2] <;> rfl)) ?_
  refine Zb (.bool true) (Za (Zc (Zq (Zr ?_))))
  rw [show Zcv 32 a b = true from by rw [← Zsm, ← show j = 32 by omega, ← ha]; exact h2]
  exact Zk (v := .bool true) rfl rfl rfl (by kernel_rfl) rfl
  refine Zl (vx := w8 all) (vy := w8 (0#8)) rfl rfl (.bool false) rfl rfl (Eq.trans eqlW (by rw [h2] <;> rfl)) ?_
  refine Zb (.bool false) (Za (Zc (Zq (Zr ?_))))
  rw [show Zcv 32 a b = false from by rw [← Zsm, ← show j = 32 by omega, ← ha]; exact h2]
  exact Zk (v := .bool false) rfl rfl rfl (by kernel_rfl) rfl
theorem Z40 (kk : Nat → BitVec 32) (hG : G 3 = some (Zag w32 64 kk)) (master : D) (region node : Int)  : Z6 Tryz.prog G 71 [dgV master, Iv region, Iv node] [] (.tuple #[dgV (Zci kk master region node).1, Iv (Zci kk master region node).2]) [] := by
 refine Za8 (fn := Tryz.f71) (nt := 31) rfl rfl rfl rfl ?_
 refine Zaa 3 (H' := [hole, hole, hole]) rfl ?_
 refine Zf (Zg (Zbq (v := dgV master) (b := dgB master) (nid := 0) (H' := [dgB master, hole, hole]) (Zam (b := dgB dz) (nid := 1) (H' := [dgB master, dgB dz, hole]) (Zb (Iv 0) (Za (Zc (Zf (Zf (Zg (Zd (Iv region) ?_))))))))))
 by_cases h1 : region < 1
 refine Zl (vx := Iv region) (vy := Iv 1) rfl rfl (.bool true) rfl rfl (Zcc (by omega)) ?_
 refine Zd (.bool true) (Ze (Ze (Zi (.bool true) (Zd (.bool true) (Ze (Ze (Zi (.bool true) (Zd (.bool true) (Ze (Ze (Zi (.bool true) (Za (Zc (Zx rfl (Zf (Zg ?_))))))))))))))))
 refine Za5 (vs := []) (v := dgV dz) rfl rfl rfl (by kernel_rfl) ?_
 refine Z7 (p := pt 1 0) (v := dgV dz) (b := 1) (blk := dgB dz) (H' := [dgB master, dgB dz, hole]) (Zb (Iv 50) (Za (Zc (Zq (Zz (Zr ?_))))))
 rw [show Zci kk master region node = (dz, 50) from if_neg (by omega)]
 exact Zk (v := .tuple #[dgV dz, Iv 50]) (by kernel_rfl) rfl rfl (by kernel_rfl) ⟨(Zbm (Zbu fun _ => rfl) rfl), rfl, trivial⟩
 refine Zl (vx := Iv region) (vy := Iv 1) rfl rfl (.bool false) rfl rfl (Zb5 (by omega)) ?_
 refine Zd (.bool false) (Zd (Iv region) ?_)
 by_cases h2 : 5 < region
 refine Zl (vx := Iv region) (vy := Iv 5) rfl rfl (.bool true) rfl rfl (Zes (by omega)) ?_
 refine Zi (.bool true) (Zd (.bool true) (Ze (Ze (Zi (.bool true) (Zd (.bool true) (Ze (Ze (Zi (.bool true) (Za (Zc (Zx rfl (Zf (Zg ?_)))))))))))))
 refine Za5 (vs := []) (v := dgV dz) rfl rfl rfl (by kernel_rfl) ?_
 refine Z7 (p := pt 1 0) (v := dgV dz) (b := 1) (blk := dgB dz) (H' := [dgB master, dgB dz, hole]) (Zb (Iv 50) (Za (Zc (Zq (Zz (Zr ?_))))))
 rw [show Zci kk master region node = (dz, 50) from if_neg (by omega)]
 exact Zk (v := .tuple #[dgV dz, Iv 50]) (by kernel_rfl) rfl rfl (by kernel_rfl) ⟨(Zbm (Zbu fun _ => rfl) rfl), rfl, trivial⟩
 refine Zl (vx := Iv region) (vy := Iv 5) rfl rfl (.bool false) rfl rfl (Zeq (by omega)) ?_
 refine Zi (.bool false) (Zd (.bool false) (Zd (Iv node) ?_))
 by_cases h3 : node < 1
 refine Zl (vx := Iv node) (vy := Iv 1) rfl rfl (.bool true) rfl rfl (Zcc (by omega)) ?_
 refine Zi (.bool true) (Zd (.bool true) (Ze (Ze (Zi (.bool true) (Za (Zc (Zx rfl (Zf (Zg ?_)))))))))
 refine Za5 (vs := []) (v := dgV dz) rfl rfl rfl (by kernel_rfl) ?_
 refine Z7 (p := pt 1 0) (v := dgV dz) (b := 1) (blk := dgB dz) (H' := [dgB master, dgB dz, hole]) (Zb (Iv 50) (Za (Zc (Zq (Zz (Zr ?_))))))
 rw [show Zci kk master region node = (dz, 50) from if_neg (by omega)]
 exact Zk (v := .tuple #[dgV dz, Iv 50]) (by kernel_rfl) rfl rfl (by kernel_rfl) ⟨(Zbm (Zbu fun _ => rfl) rfl), rfl, trivial⟩
 refine Zl (vx := Iv node) (vy := Iv 1) rfl rfl (.bool false) rfl rfl (Zb5 (by omega)) ?_
 refine Zi (.bool false) (Zd (.bool false) (Zd (Iv node) ?_))
 by_cases h4 : 3 < node
 refine Zl (vx := Iv node) (vy := Iv 3) rfl rfl (.bool true) rfl rfl (Zes (by omega)) ?_
 refine Zi (.bool true) (Za (Zc (Zx rfl (Zf (Zg ?_)))))
 refine Za5 (vs := []) (v := dgV dz) rfl rfl rfl (by kernel_rfl) ?_
 refine Z7 (p := pt 1 0) (v := dgV dz) (b := 1) (blk := dgB dz) (H' := [dgB master, dgB dz, hole]) (Zb (Iv 50) (Za (Zc (Zq (Zz (Zr ?_))))))
 rw [show Zci kk master region node = (dz, 50) from if_neg (by omega)]
 exact Zk (v := .tuple #[dgV dz, Iv 50]) (by kernel_rfl) rfl rfl (by kernel_rfl) ⟨(Zbm (Zbu fun _ => rfl) rfl), rfl, trivial⟩
 refine Zl (vx := Iv node) (vy := Iv 3) rfl rfl (.bool false) rfl rfl (Zeq (by omega)) ?_
 refine Zi (.bool false) (Za (Zc (Zu rfl (Z0 (Zc (Zf (Zg (Zp (p := pt 0 0) (v := dgV master) (Zd (Iv region) ?_)))))))))
 refine Zc6 (w := Iv region) (v := w8 (BitVec.ofInt 8 region)) rfl rfl rfl (Zfl rfl rfl rfl) ?_
 refine Zd (Iv node) ?_
 refine Zc6 (w := Iv node) (v := w8 (BitVec.ofInt 8 node)) rfl rfl rfl (Zfl rfl rfl rfl) ?_
 refine Zdb (vs := [(0, w8 (75#8)), (1, w8 (BitVec.ofInt 8 region)), (2, w8 (BitVec.ofInt 8 node))]) (v := slv 2 0 3 3) (blk := Zah [75#8, (BitVec.ofInt 8 region), (BitVec.ofInt 8 node)]) (nid := 2) (H' := [dgB master, dgB dz, Zah [75#8, (BitVec.ofInt 8 region), (BitVec.ofInt 8 node)]]) rfl rfl rfl (by kernel_rfl) (by kernel_rfl) ?_
 refine Ze2 (p := slv 2 0 3 3) (v := .string (Zm [75#8, (BitVec.ofInt 8 region), (BitVec.ofInt 8 node)])) rfl rfl rfl (Zdu rfl rfl rfl rfl rfl (by have := (rfl : _ = 3); omega)) ?_
 refine Zo (Zxs (G := G) kk hG master (Zm [75#8, (BitVec.ofInt 8 region), (BitVec.ofInt 8 node)]) (by simp [Za1])) (vals := [dgV master, .string (Zm [75#8, (BitVec.ofInt 8 region), (BitVec.ofInt 8 node)])]) (res' := dgV (Zgz kk master (Zm [75#8, (BitVec.ofInt 8 region), (BitVec.ofInt 8 node)]))) rfl rfl rfl rfl rfl (by kernel_rfl) ?_
 refine Z7 (p := pt 1 0) (v := dgV (Zgz kk master (Zm [75#8, (BitVec.ofInt 8 region), (BitVec.ofInt 8 node)]))) (b := 1) (blk := dgB (Zgz kk master (Zm [75#8, (BitVec.ofInt 8 region), (BitVec.ofInt 8 node)]))) (H' := [dgB master, dgB (Zgz kk master (Zm [75#8, (BitVec.ofInt 8 region), (BitVec.ofInt 8 node)])), Zah [75#8, (BitVec.ofInt 8 region), (BitVec.ofInt 8 node)]]) (Zb (Iv 0) (Za (Zc (Zq (Zr ?_)))))
 rw [show Zci kk master region node = ((Zgz kk master (Zm [75#8, (BitVec.ofInt 8 region), (BitVec.ofInt 8 node)])), 0) from if_pos (by omega)]
 exact Zk (v := .tuple #[dgV (Zgz kk master (Zm [75#8, (BitVec.ofInt 8 region), (BitVec.ofInt 8 node)])), Iv 0]) (by kernel_rfl) rfl rfl (by kernel_rfl) ⟨(Zbm (Zbu fun _ => rfl) rfl), rfl, trivial⟩
def Zg6 (kk : Nat → BitVec 32) (master : D) (region node : Int) (s : ByteArray) (t : D) : Int :=
  if ((Zci kk master region node).2) ≠ 0 then ((Zci kk master region node).2) else
  if Zcv 32 (Zgz kk ((Zci kk master region node).1) s) t = true then 0 else
  72
theorem Z28 (kk : Nat → BitVec 32) (hG : G 3 = some (Zag w32 64 kk)) (master : D) (region node : Int) (s : ByteArray) (t : D) (hs : s.size ≤ 1048576) : Z6 Tryz.prog G 73 [dgV master, Iv region, Iv node, .string s, dgV t] [] (Iv (Zg6 kk master region node s t)) [] := by
 refine Za8 (fn := Tryz.f73) (nt := 31) rfl rfl rfl rfl ?_
 refine Zaa 3 (H' := [hole, hole, hole]) rfl ?_
 refine Zf (Zg (Zbq (v := dgV master) (b := dgB master) (nid := 0) (H' := [dgB master, hole, hole]) (Zbq (v := dgV t) (b := dgB t) (nid := 1) (H' := [dgB master, dgB t, hole]) (Zb (Iv 0) (Za (Zc (Zf (Zg (Zp (p := pt 0 0) (v := dgV master) (Zd (Iv region) (Zd (Iv node) ?_)))))))))))
 refine Zo (Z40 (G := G) kk hG master region node) (vals := [dgV master, Iv region, Iv node]) (res' := .tuple #[dgV ((Zci kk master region node).1), Iv ((Zci kk master region node).2)]) rfl rfl rfl rfl rfl (by kernel_rfl) ?_
 refine Zd (.tuple #[dgV ((Zci kk master region node).1), Iv ((Zci kk master region node).2)]) (Zw (vs := #[dgV ((Zci kk master region node).1), Iv ((Zci kk master region node).2)]) (v := dgV ((Zci kk master region node).1)) (Zw (vs := #[dgV ((Zci kk master region node).1), Iv ((Zci kk master region node).2)]) (v := Iv ((Zci kk master region node).2)) (Zam (b := dgB dz) (nid := 2) (H' := [dgB master, dgB t, dgB dz]) (Z7 (p := pt 2 0) (v := dgV ((Zci kk master region node).1)) (b := 2) (blk := dgB ((Zci kk master region node).1)) (H' := [dgB master, dgB t, dgB ((Zci kk master region node).1)]) (Zb (Iv ((Zci kk master region node).2)) (Za (Zc (Zf (Z1 (Zf (Zg (Zd (Iv ((Zci kk master region node).2)) ?_))))))))))))
 by_cases h1 : ((Zci kk master region node).2) ≠ 0
 refine Zl (vx := Iv ((Zci kk master region node).2)) (vy := Iv 0) rfl rfl (.bool true) rfl rfl (Zea (by omega)) ?_
 refine Zb (.bool true) (Za (Zc (Zx rfl (Zf (Zg (Zd (Iv ((Zci kk master region node).2)) (Zb (Iv ((Zci kk master region node).2)) (Za (Zc (Zq (Za4 (Zz (Zr ?_)))))))))))))
 rw [show Zg6 kk master region node s t = ((Zci kk master region node).2) from by unfold Zg6; rw [if_pos h1]]
 exact Zk (v := Iv ((Zci kk master region node).2)) rfl rfl rfl (by kernel_rfl) rfl
 refine Zl (vx := Iv ((Zci kk master region node).2)) (vy := Iv 0) rfl rfl (.bool false) rfl rfl (Zdz (by omega)) ?_
 refine Zb (.bool false) (Za (Zc (Zu rfl (Zf ?_))))
 refine Zgc (by kernel_rfl) ?_
 refine Zp (p := pt 2 0) (v := dgV ((Zci kk master region node).1)) (Zd (.string s) ?_)
 refine Zo (Zxs (G := G) kk hG ((Zci kk master region node).1) s hs) (vals := [dgV ((Zci kk master region node).1), .string s]) (res' := dgV (Zgz kk ((Zci kk master region node).1) s)) rfl rfl rfl rfl rfl (by kernel_rfl) ?_
 refine Zp (p := pt 1 0) (v := dgV t) ?_
 refine Zo (Z6l (G := G) (Zgz kk ((Zci kk master region node).1) s) t) (vals := [dgV (Zgz kk ((Zci kk master region node).1) s), dgV t]) (res' := .bool (Zcv 32 (Zgz kk ((Zci kk master region node).1) s) t)) rfl rfl rfl rfl rfl rfl ?_
 rcases Bool.eq_false_or_eq_true (Zcv 32 (Zgz kk ((Zci kk master region node).1) s) t) with h2 | h2
 refine Zg5 (vx := .bool (Zcv 32 (Zgz kk ((Zci kk master region node).1) s) t)) rfl rfl (.bool false) rfl (Eq.trans Zd1 (congrArg (fun b => some (Value.bool !b)) h2)) ?_
 refine Zb (.bool false) ?_
 refine Zeu (by kernel_rfl) ?_
 refine Zc (Zu rfl (Z0 (Z4 (Zc (Zf (Zg (Zb (Iv 0) (Za (Zc (Zq (Zr ?_)))))))))))
 rw [show Zg6 kk master region node s t = 0 from by unfold Zg6; rw [if_neg h1, if_pos h2]]
 exact Zk (v := Iv 0) rfl rfl rfl (by kernel_rfl) rfl
 refine Zg5 (vx := .bool (Zcv 32 (Zgz kk ((Zci kk master region node).1) s) t)) rfl rfl (.bool true) rfl (Eq.trans Zd1 (congrArg (fun b => some (Value.bool !b)) h2)) ?_
 refine Zb (.bool true) ?_
 refine Zeu (by kernel_rfl) ?_
 refine Zc (Zx rfl (Zf (Zg (Zb (Iv 72) (Za (Zc (Zq (Za4 (Zz (Zr ?_))))))))))
 rw [show Zg6 kk master region node s t = 72 from by unfold Zg6; rw [if_neg h1, if_neg (by rw [h2]; decide)]]
 exact Zk (v := Iv 72) rfl rfl rfl (by kernel_rfl) rfl
end Go.Flat
