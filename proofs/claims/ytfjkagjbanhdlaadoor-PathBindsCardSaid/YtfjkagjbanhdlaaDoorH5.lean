/- Walks. -/
import Derived.Test.YtfjkagjbanhdlaaDoorH4
set_option linter.unusedVariables false
set_option linter.unusedSimpArgs false
set_option maxRecDepth 20000
namespace Go.Flat
open Go.Proofs
variable {G : Glob}
def Z0o (key : D) : D := fun i => if i < 32 then key i else 0
def Zpf (c : D) (x : BitVec 8) (j : Nat) : D := fun i => if i < j then c i ^^^ x else c i
theorem Zvd (c : D) (x : BitVec 8) : Zpf c x 0 = c := by funext i; simp [Zpf]
theorem Zwg {c d : D} {x : BitVec 8} {j : Nat} (h : d = Zpf c x j) : Zhj d j (d j ^^^ x) = Zpf c x (j + 1) := by
 subst h
 funext i
 unfold Zhj Zpf
 by_cases hi : i = j
 ·subst hi; simp
 ·simp only [if_neg hi]
  by_cases h1 : i < j
  ·rw [if_pos h1, if_pos (by omega)]
  ·rw [if_neg h1, if_neg (by omega)]
def Za4 (key : D) (x : BitVec 8) : ByteArray := Zn (Zjn 64 (Zpf (Z0o key) x 64))
theorem Zhk (key : D) (x : BitVec 8) : (Za4 key x).size = 64 := by unfold Za4; rw [Zay, Zj9]
def Zfz (kk : Nat → BitVec 32) (key : D) (s : ByteArray) : D := Zbi kk (Zbg [Za4 key 92#8, Zn (dgL (Zbi kk (Zbg [Za4 key 54#8, s])))])
def Zwh (a b : D) : Nat → BitVec 8
  | 0 => 0
  | j + 1 => Zwh a b j ||| (a j ^^^ b j)
theorem Zzl {a b : D} {all : BitVec 8} {j : Nat} (h : all = Zwh a b j) : (all ||| (a j ^^^ b j)) = Zwh a b (j + 1) := by subst h; rfl
theorem Zzu (x y : BitVec 8) : (x ||| y == 0#8) = ((x == 0#8) && (y == 0#8)) := by
 rw [Bool.eq_iff_iff, Bool.and_eq_true, beq_iff_eq, beq_iff_eq, beq_iff_eq]
 constructor
 ·intro h
  constructor
  ·apply BitVec.eq_of_getLsbD_eq; intro i hi; have := congrArg (fun z => z.getLsbD i) h; simp at this ⊢; exact this.1
  ·apply BitVec.eq_of_getLsbD_eq; intro i hi; have := congrArg (fun z => z.getLsbD i) h; simp at this ⊢; exact this.2
 ·rintro ⟨rfl, rfl⟩; rfl
theorem Zy6 (x y : BitVec 8) : (x ^^^ y == 0#8) = (x == y) := by
 rw [Bool.eq_iff_iff, beq_iff_eq, beq_iff_eq]
 constructor
 ·intro h; exact BitVec.xor_eq_zero_iff.1 h
 ·rintro rfl; exact BitVec.xor_self
theorem Zuf (a b : D) : ∀ j, (Zwh a b j == 0#8) = (List.range j).all fun i => a i == b i
 | 0 => rfl
 | j + 1 => by
  rw [Zwh, Zzu, Zy6, Zuf a b j, List.range_succ, List.all_append]; simp
theorem Zrt (a b : D) : (Zwh a b 32 == 0#8) = Za6 32 a b := Zuf a b 32
def Zbt (kk : Nat → BitVec 32) (master : D) (region node : Int) : D × Int := if (1 ≤ region ∧ region ≤ 5) ∧ (1 ≤ node ∧ node ≤ 3) then (Zfz kk master (Zn [75#8, BitVec.ofInt 8 region, BitVec.ofInt 8 node]), 0) else (dz, 50)
theorem Zlx (key : D) (u : BitVec 8) : Zae Tryd.prog G 45 [dgV key, w8 u] [] (.string (Za4 key u)) [] := by
  refine Zbj (fn := Tryd.f45) (nt := 22) rfl rfl rfl rfl ?_
  refine Zaj 2 (H' := [hole, hole]) rfl ?_
  refine Zf (Zg ?_)
  refine Zbr (v := dgV key) (b := dgB key) (nid := 0) (H' := [dgB key, hole]) rfl rfl rfl (by kernel_rfl) (by kernel_rfl) ?_
  refine Zc rfl rfl (.string ⟨#[]⟩) rfl (Za (Zb (Zf (Zg ?_))))
  refine Z7 (b := bxB 64 (Zac w8 64 dz)) (nid := 1) (H' := [dgB key, bxB 64 (Zac w8 64 dz)]) rfl rfl (by kernel_rfl) (by kernel_rfl) ?_
  refine Za (Zb (Zf ?_))
  refine Zdu (by kernel_rfl) ?_
  refine Zdd (p := pt 1 0) (vl := none) (vh := none) (v := slv 1 0 64 64) rfl rfl rfl rfl rfl rfl ?_
  refine Zdd (p := pt 0 0) (vl := none) (vh := none) (v := slv 0 0 32 32) rfl rfl rfl rfl rfl rfl ?_
  refine Z0x (p := slv 1 0 64 64) (q := slv 0 0 32 32) (v := Iv 32) (b := 1) (blk := bxB 64 (Zac w8 64 (Z0o key))) (H' := [dgB key, bxB 64 (Zac w8 64 (Z0o key))]) rfl rfl rfl rfl (by kernel_rfl) (by kernel_rfl) ?_
  refine Zcu (by kernel_rfl) ?_
  refine Zb (Zf (Zf (Zg (Ze rfl rfl (Iv 0) rfl (Za (Zb (Z9 ?_)))))))
  refine Zch (fun x : Nat × D => match x with | (j, d) => [dgV key, w8 u, pt 0 0, dead, .string ⟨#[]⟩, pt 1 0, dead, slv 1 0 64 64, slv 0 0 32 32, Iv 32, Iv (j : Nat)]) (fun x : Nat × D => match x with | (j, d) => [dgB key, bxB 64 (Zac w8 64 d)]) (fun x : Nat × D => match x with | (j, d) => d = Zpf (Z0o key) u j ∧ j ≤ 64) (fun x : Nat × D => match x with | (j, d) => 64 - j) (0, (Z0o key)) ⟨(Zvd _ _).symm, by omega⟩ ?_ ?_
  · refine Zal (n := 2) rfl ?_ (by kernel_rfl) (by kernel_rfl)
    repeat (first | exact trivial | refine ⟨.inl rfl, ?_⟩ | refine ⟨.inr ⟨rfl, rfl⟩, ?_⟩ | refine ⟨.inr ⟨congrArg (Value.int .i64) (by first | omega | (dsimp only; omega)), rfl⟩, ?_⟩)
  rintro ⟨j, d⟩ ⟨hd, hj⟩
  dsimp only at *
  refine Zf (Zg ?_)
  by_cases h1 : (j : Nat) < 64
  refine Zk (vx := Iv (j : Nat)) (vy := Iv 64) rfl rfl (.bool true) rfl rfl (Zcq (by omega)) ?_
  refine Za (Zb (Zf (Zz rfl (Z2 (Zb (Zf (Z9 (Zf (Zg (Ze rfl rfl (Iv (j : Nat)) rfl (Zc rfl rfl (Iv (j : Nat)) rfl (Za (Zb (Zg (Ze rfl rfl (Iv (j : Nat)) rfl ?_)))))))))))))))
  refine Zdw (b := 1) (o := 0) (j := j) (n := 64) (sz := 1) (i := (j : Nat)) (k := .i64) rfl rfl rfl rfl rfl (by omega) (by omega) (by omega) ?_
  refine Zl (p := pt 1 j) (v := w8 (d j)) rfl rfl rfl (Zii (blk := bxB 64 (Zac w8 64 d)) (i := j) (enc := w8) (n := 64) (w := d) rfl rfl rfl (by omega) fun _ => rfl) ?_
  refine Ze rfl rfl (w8 u) rfl ?_
  refine Zk (vx := w8 (d j)) (vy := w8 u) rfl rfl (w8 ((d j) ^^^ u)) rfl rfl (Z5p (ofI _ _) (ofI _ _)) ?_
  refine Zdw (b := 1) (o := 0) (j := j) (n := 64) (sz := 1) (i := (j : Nat)) (k := .i64) rfl rfl rfl rfl rfl (by omega) (by omega) (by omega) ?_
  refine Zx (p := pt 1 j) (v := w8 ((d j) ^^^ u)) (b := 1) (blk := bxB 64 (Zac w8 64 (Zhj d j ((d j) ^^^ u)))) (H' := [dgB key, bxB 64 (Zac w8 64 (Zhj d j ((d j) ^^^ u)))]) rfl rfl rfl (Zg5 (blk := bxB 64 (Zac w8 64 d)) (i := j) (enc := w8) (n := 64) (w := d) (x := ((d j) ^^^ u)) rfl rfl rfl rfl rfl (by omega) rfl rfl) (by kernel_rfl) ?_
  refine Za (Zab (Zb (Zg ?_)))
  refine Zk (vx := Iv (j : Nat)) (vy := Iv 1) rfl rfl (Iv ((j : Nat) + 1)) rfl rfl (Zaz (by omega) (by omega) (by omega)) ?_
  refine Ze rfl rfl (Iv ((j : Nat) + 1)) rfl (Za ?_)
  refine Zas ⟨((j + 1), (Zhj d j ((d j) ^^^ u))), ⟨Zwg hd, by omega⟩, by show 64 - (j + 1) < 64 - j; omega, ?_⟩
  refine Zal (n := 2) rfl ?_ (by kernel_rfl) (by kernel_rfl)
  repeat (first | exact trivial | refine ⟨.inl rfl, ?_⟩ | refine ⟨.inr ⟨rfl, rfl⟩, ?_⟩ | refine ⟨.inr ⟨congrArg (Value.int .i64) (by first | omega | (dsimp only; omega)), rfl⟩, ?_⟩)
  refine Zk (vx := Iv (j : Nat)) (vy := Iv 64) rfl rfl (.bool false) rfl rfl (Zcj (by omega)) ?_
  refine Za (Zb (Zf (Zv rfl (Zbh (Zar (Za0 (Zaw rfl (Zb (Zf (Zg ?_))))))))))
  refine Zdd (p := pt 1 0) (vl := none) (vh := none) (v := slv 1 0 64 64) rfl rfl rfl rfl rfl rfl ?_
  refine Zfm (p := slv 1 0 64 64) (v := .string (Zn (Zjn 64 d))) rfl rfl rfl (Zd9 (l := (Zjn 64 d)) rfl rfl rfl rfl (of_decide_eq_true (by kernel_rfl)) (by kernel_rfl)) ?_
  refine Zc rfl rfl (.string (Zn (Zjn 64 d))) rfl (Za (Zb (Zt (Zu ?_))))
  rw [show Za4 key u = Zn (Zjn 64 d) from by rw [hd, show j = 64 by omega]; rfl]
  exact Zm (v := .string (Zn (Zjn 64 d))) rfl rfl rfl (by kernel_rfl) rfl
theorem Zvo (kk : Nat → BitVec 32) (hG : G 0 = some (Zac w32 64 kk)) (key : D) (s : ByteArray) (hs : s.size ≤ 1048576) : Zae Tryd.prog G 25 [dgV key, .string s] [] (dgV (Zfz kk key s)) [] := by
  refine Zbj (fn := Tryd.f25) (nt := 17) rfl rfl rfl rfl ?_
  refine Zaj 5 (H' := [hole, hole, hole, hole, hole]) rfl ?_
  refine Zf (Zg ?_)
  refine Zbr (v := dgV key) (b := dgB key) (nid := 0) (H' := [dgB key, hole, hole, hole, hole]) rfl rfl rfl (by kernel_rfl) (by kernel_rfl) ?_
  refine Z7 (b := dgB dz) (nid := 1) (H' := [dgB key, dgB dz, hole, hole, hole]) rfl rfl (by kernel_rfl) (by kernel_rfl) ?_
  refine Za (Zb (Zf (Zg ?_)))
  refine Zl (p := pt 0 0) (v := dgV key) rfl rfl rfl (by kernel_rfl) ?_
  refine Zq (Zlx (G := G) key (54#8)) (vals := [dgV key, w8 (54#8)]) (res' := .string (Za4 key (54#8))) rfl rfl rfl rfl rfl rfl ?_
  refine Ze rfl rfl (.string s) rfl ?_
  refine Zda (vs := [(0, .string (Za4 key (54#8))), (1, .string s)]) (v := slv 2 0 2 2) (blk := txB [(Za4 key (54#8)), s]) (nid := 2) (H' := [dgB key, dgB dz, txB [(Za4 key (54#8)), s], hole, hole]) rfl rfl rfl (by kernel_rfl) (by kernel_rfl) ?_
  refine Z4 (e := [some (2, 0)]) (nid := 0) (Zru (G := G) kk hG [(Za4 key (54#8)), s] 2 (by simp) (by simp [Zhk, Zay, Zev]; try omega)) (vals := [slv 2 0 2 2]) (v := dgV (Zbi kk (Zbg [(Za4 key (54#8)), s]))) (H' := [dgB key, dgB dz, txB [(Za4 key (54#8)), s], hole, hole]) rfl rfl rfl rfl rfl rfl rfl ⟨⟨⟨rfl, rfl, rfl, by first | omega | exact Nat.le_refl _, by first | omega | exact Nat.le_refl _⟩, trivial⟩, ⟨(Zoy rfl), trivial⟩, rfl, rfl, rfl⟩ (by kernel_rfl) (by kernel_rfl) ?_
  refine Z7 (b := dgB dz) (nid := 3) (H' := [dgB key, dgB dz, txB [(Za4 key (54#8)), s], dgB dz, hole]) rfl rfl (by kernel_rfl) (by kernel_rfl) ?_
  refine Zx (p := pt 3 0) (v := dgV (Zbi kk (Zbg [(Za4 key (54#8)), s]))) (b := 3) (blk := dgB (Zbi kk (Zbg [(Za4 key (54#8)), s]))) (H' := [dgB key, dgB dz, txB [(Za4 key (54#8)), s], dgB (Zbi kk (Zbg [(Za4 key (54#8)), s])), hole]) rfl rfl rfl (by kernel_rfl) (by kernel_rfl) ?_
  refine Za (Zb (Zf ?_))
  refine Zmz (by kernel_rfl) ?_
  refine Zl (p := pt 0 0) (v := dgV key) rfl rfl rfl (by kernel_rfl) ?_
  refine Zq (Zlx (G := G) key (92#8)) (vals := [dgV key, w8 (92#8)]) (res' := .string (Za4 key (92#8))) rfl rfl rfl rfl rfl rfl ?_
  refine Zdd (p := pt 3 0) (vl := none) (vh := none) (v := slv 3 0 32 32) rfl rfl rfl rfl rfl rfl ?_
  refine Zfm (p := slv 3 0 32 32) (v := .string (Zn (dgL (Zbi kk (Zbg [(Za4 key (54#8)), s]))))) rfl rfl rfl (Zd9 (l := (dgL (Zbi kk (Zbg [(Za4 key (54#8)), s])))) rfl rfl rfl rfl (of_decide_eq_true (by kernel_rfl)) (by kernel_rfl)) ?_
  refine Zda (vs := [(0, .string (Za4 key (92#8))), (1, .string (Zn (dgL (Zbi kk (Zbg [(Za4 key (54#8)), s])))))]) (v := slv 4 0 2 2) (blk := txB [(Za4 key (92#8)), (Zn (dgL (Zbi kk (Zbg [(Za4 key (54#8)), s]))))]) (nid := 4) (H' := [dgB key, dgB dz, txB [(Za4 key (54#8)), s], dgB (Zbi kk (Zbg [(Za4 key (54#8)), s])), txB [(Za4 key (92#8)), (Zn (dgL (Zbi kk (Zbg [(Za4 key (54#8)), s]))))]]) rfl rfl rfl (by kernel_rfl) (by kernel_rfl) ?_
  refine Z4 (e := [some (4, 0)]) (nid := 0) (Zru (G := G) kk hG [(Za4 key (92#8)), (Zn (dgL (Zbi kk (Zbg [(Za4 key (54#8)), s]))))] 2 (by simp) (by simp [Zhk, Zay, Zev]; try omega)) (vals := [slv 4 0 2 2]) (v := dgV (Zbi kk (Zbg [(Za4 key (92#8)), (Zn (dgL (Zbi kk (Zbg [(Za4 key (54#8)), s]))))]))) (H' := [dgB key, dgB dz, txB [(Za4 key (54#8)), s], dgB (Zbi kk (Zbg [(Za4 key (54#8)), s])), txB [(Za4 key (92#8)), (Zn (dgL (Zbi kk (Zbg [(Za4 key (54#8)), s]))))]]) rfl rfl rfl rfl rfl rfl rfl ⟨⟨⟨rfl, rfl, rfl, by first | omega | exact Nat.le_refl _, by first | omega | exact Nat.le_refl _⟩, trivial⟩, ⟨(Zoy rfl), trivial⟩, rfl, rfl, rfl⟩ (by kernel_rfl) (by kernel_rfl) ?_
  refine Zx (p := pt 1 0) (v := dgV (Zbi kk (Zbg [(Za4 key (92#8)), (Zn (dgL (Zbi kk (Zbg [(Za4 key (54#8)), s]))))]))) (b := 1) (blk := dgB (Zbi kk (Zbg [(Za4 key (92#8)), (Zn (dgL (Zbi kk (Zbg [(Za4 key (54#8)), s]))))]))) (H' := [dgB key, dgB (Zbi kk (Zbg [(Za4 key (92#8)), (Zn (dgL (Zbi kk (Zbg [(Za4 key (54#8)), s]))))])), txB [(Za4 key (54#8)), s], dgB (Zbi kk (Zbg [(Za4 key (54#8)), s])), txB [(Za4 key (92#8)), (Zn (dgL (Zbi kk (Zbg [(Za4 key (54#8)), s]))))]]) rfl rfl rfl (by kernel_rfl) (by kernel_rfl) ?_
  refine Zkm (by kernel_rfl) ?_
  refine Zb (Zt (Zu ?_))
  exact Zm (v := dgV (Zbi kk (Zbg [(Za4 key (92#8)), (Zn (dgL (Zbi kk (Zbg [(Za4 key (54#8)), s]))))]))) (by kernel_rfl) rfl rfl (by kernel_rfl) (Zcr (Zb0 fun _ => rfl) rfl)
theorem Z2i (a b : D) : Zae Tryd.prog G 81 [dgV a, dgV b] [] (.bool (Za6 32 a b)) [] := by
  refine Zbj (fn := Tryd.f81) (nt := 22) rfl rfl rfl rfl ?_
  refine Zaj 2 (H' := [hole, hole]) rfl ?_
  refine Zf (Zg ?_)
  refine Zbr (v := dgV a) (b := dgB a) (nid := 0) (H' := [dgB a, hole]) rfl rfl rfl (by kernel_rfl) (by kernel_rfl) ?_
  refine Zbr (v := dgV b) (b := dgB b) (nid := 1) (H' := [dgB a, dgB b]) rfl rfl rfl (by kernel_rfl) (by kernel_rfl) ?_
  refine Zc rfl rfl (.bool false) rfl (Za (Zb (Zf (Zg (Zc rfl rfl (w8 (0#8)) rfl (Za (Zb (Zf (Zf (Zg (Ze rfl rfl (Iv 0) rfl (Za (Zb (Z9 ?_))))))))))))))
  refine Zch (fun x : Nat × (BitVec 8) => match x with | (j, all) => [dgV a, dgV b, pt 0 0, pt 1 0, .bool false, w8 all, dead, Iv (j : Nat)]) (fun x : Nat × (BitVec 8) => match x with | (j, all) => [dgB a, dgB b]) (fun x : Nat × (BitVec 8) => match x with | (j, all) => all = Zwh a b j ∧ j ≤ 32) (fun x : Nat × (BitVec 8) => match x with | (j, all) => 32 - j) (0, 0) ⟨rfl, by omega⟩ ?_ ?_
  · refine Zal (n := 2) rfl ?_ (by kernel_rfl) (by kernel_rfl)
    repeat (first | exact trivial | refine ⟨.inl rfl, ?_⟩ | refine ⟨.inr ⟨rfl, rfl⟩, ?_⟩ | refine ⟨.inr ⟨congrArg (Value.int .i64) (by first | omega | (dsimp only; omega)), rfl⟩, ?_⟩)
  rintro ⟨j, all⟩ ⟨ha, hj⟩
  dsimp only at *
  refine Zf (Zg ?_)
  by_cases h1 : (j : Nat) < 32
  refine Zk (vx := Iv (j : Nat)) (vy := Iv 32) rfl rfl (.bool true) rfl rfl (Zcq (by omega)) ?_
  refine Za (Zb (Zf (Zz rfl (Z2 (Zb (Zf (Z9 (Zf (Zg (Ze rfl rfl (Iv (j : Nat)) rfl (Zc rfl rfl (Iv (j : Nat)) rfl (Za (Zb ?_)))))))))))))
  refine Zdu (by kernel_rfl) ?_
  refine Ze rfl rfl (w8 all) rfl (Ze rfl rfl (Iv (j : Nat)) rfl ?_)
  refine Zdw (b := 0) (o := 0) (j := j) (n := 32) (sz := 1) (i := (j : Nat)) (k := .i64) rfl rfl rfl rfl rfl (by omega) (by omega) (by omega) ?_
  refine Zl (p := pt 0 j) (v := w8 (a j)) rfl rfl rfl (Zii (blk := dgB a) (i := j) (enc := w8) (n := 32) (w := a) rfl rfl rfl (by omega) fun _ => rfl) ?_
  refine Ze rfl rfl (Iv (j : Nat)) rfl ?_
  refine Zdw (b := 1) (o := 0) (j := j) (n := 32) (sz := 1) (i := (j : Nat)) (k := .i64) rfl rfl rfl rfl rfl (by omega) (by omega) (by omega) ?_
  refine Zl (p := pt 1 j) (v := w8 (b j)) rfl rfl rfl (Zii (blk := dgB b) (i := j) (enc := w8) (n := 32) (w := b) rfl rfl rfl (by omega) fun _ => rfl) ?_
  refine Zk (vx := w8 (a j)) (vy := w8 (b j)) rfl rfl (w8 ((a j) ^^^ (b j))) rfl rfl (Z5p (ofI _ _) (ofI _ _)) ?_
  refine Zk (vx := w8 all) (vy := w8 ((a j) ^^^ (b j))) rfl rfl (w8 (all ||| ((a j) ^^^ (b j)))) rfl rfl (or8 (ofI _ _) (ofI _ _)) ?_
  refine Zc rfl rfl (w8 (all ||| ((a j) ^^^ (b j)))) rfl ?_
  refine Zcu (by kernel_rfl) ?_
  refine Zab (Zb (Zg ?_))
  refine Zk (vx := Iv (j : Nat)) (vy := Iv 1) rfl rfl (Iv ((j : Nat) + 1)) rfl rfl (Zaz (by omega) (by omega) (by omega)) ?_
  refine Ze rfl rfl (Iv ((j : Nat) + 1)) rfl (Za ?_)
  refine Zas ⟨((j + 1), (all ||| ((a j) ^^^ (b j)))), ⟨Zzl ha, by omega⟩, by show 32 - (j + 1) < 32 - j; omega, ?_⟩
  refine Zal (n := 2) rfl ?_ (by kernel_rfl) (by kernel_rfl)
  repeat (first | exact trivial | refine ⟨.inl rfl, ?_⟩ | refine ⟨.inr ⟨rfl, rfl⟩, ?_⟩ | refine ⟨.inr ⟨congrArg (Value.int .i64) (by first | omega | (dsimp only; omega)), rfl⟩, ?_⟩)
  refine Zk (vx := Iv (j : Nat)) (vy := Iv 32) rfl rfl (.bool false) rfl rfl (Zcj (by omega)) ?_
  refine Za (Zb (Zf (Zv rfl (Zbh (Zar (Za0 (Zaw rfl (Zb (Zf (Zg (Ze rfl rfl (w8 all) rfl ?_)))))))))))
  rcases Bool.eq_false_or_eq_true (all == 0#8) with h2 | h2
  refine Zk (vx := w8 all) (vy := w8 (0#8)) rfl rfl (.bool true) rfl rfl (Eq.trans Z5n (by rw [h2] <;> rfl)) ?_
  refine Zc rfl rfl (.bool true) rfl (Za (Zb (Zt (Zu ?_))))
  rw [show Za6 32 a b = true from by rw [← Zrt, ← show j = 32 by omega, ← ha]; exact h2]
  exact Zm (v := .bool true) rfl rfl rfl (by kernel_rfl) rfl
  refine Zk (vx := w8 all) (vy := w8 (0#8)) rfl rfl (.bool false) rfl rfl (Eq.trans Z5n (by rw [h2] <;> rfl)) ?_
  refine Zc rfl rfl (.bool false) rfl (Za (Zb (Zt (Zu ?_))))
  rw [show Za6 32 a b = false from by rw [← Zrt, ← show j = 32 by omega, ← ha]; exact h2]
  exact Zm (v := .bool false) rfl rfl rfl (by kernel_rfl) rfl
theorem Z0u (kk : Nat → BitVec 32) (hG : G 0 = some (Zac w32 64 kk)) (master : D) (region node : Int)  : Zae Tryd.prog G 24 [dgV master, Iv region, Iv node] [] (.tuple #[dgV (Zbt kk master region node).1, Iv (Zbt kk master region node).2]) [] := by
 refine Zbj (fn := Tryd.f24) (nt := 31) rfl rfl rfl rfl ?_
 refine Zaj 3 (H' := [hole, hole, hole]) rfl ?_
 refine Zf (Zg ?_)
 refine Zbr (v := dgV master) (b := dgB master) (nid := 0) (H' := [dgB master, hole, hole]) rfl rfl rfl (by kernel_rfl) (by kernel_rfl) ?_
 refine Z7 (b := dgB dz) (nid := 1) (H' := [dgB master, dgB dz, hole]) rfl rfl (by kernel_rfl) (by kernel_rfl) ?_
 refine Zc rfl rfl (Iv 0) rfl (Za (Zb (Zf (Zf (Zg (Ze rfl rfl (Iv region) rfl ?_))))))
 by_cases h1 : region < 1
 refine Zk (vx := Iv region) (vy := Iv 1) rfl rfl (.bool true) rfl rfl (Zcq (by omega)) ?_
 refine Ze rfl rfl (.bool true) rfl (Zj rfl rfl (Zj rfl rfl (Zo rfl rfl (.bool true) rfl (Ze rfl rfl (.bool true) rfl (Zj rfl rfl (Zj rfl rfl (Zo rfl rfl (.bool true) rfl (Ze rfl rfl (.bool true) rfl (Zj rfl rfl (Zj rfl rfl (Zo rfl rfl (.bool true) rfl (Za (Zb (Zz rfl (Zf (Zg ?_))))))))))))))))
 refine Zbn (vs := []) (v := dgV dz) rfl rfl rfl (by kernel_rfl) ?_
 refine Zx (p := pt 1 0) (v := dgV dz) (b := 1) (blk := dgB dz) (H' := [dgB master, dgB dz, hole]) rfl rfl rfl (by kernel_rfl) (by kernel_rfl) ?_
 refine Zc rfl rfl (Iv 50) rfl (Za (Zb (Zt (Z3 (Zu ?_)))))
 rw [show Zbt kk master region node = (dz, 50) from if_neg (by omega)]
 exact Zm (v := .tuple #[dgV dz, Iv 50]) (by kernel_rfl) rfl rfl (by kernel_rfl) ⟨(Zcr (Zb0 fun _ => rfl) rfl), rfl, trivial⟩
 refine Zk (vx := Iv region) (vy := Iv 1) rfl rfl (.bool false) rfl rfl (Zcj (by omega)) ?_
 refine Ze rfl rfl (.bool false) rfl (Ze rfl rfl (Iv region) rfl ?_)
 by_cases h2 : 5 < region
 refine Zk (vx := Iv region) (vy := Iv 5) rfl rfl (.bool true) rfl rfl (Zet (by omega)) ?_
 refine Zo rfl rfl (.bool true) rfl (Ze rfl rfl (.bool true) rfl (Zj rfl rfl (Zj rfl rfl (Zo rfl rfl (.bool true) rfl (Ze rfl rfl (.bool true) rfl (Zj rfl rfl (Zj rfl rfl (Zo rfl rfl (.bool true) rfl (Za (Zb (Zz rfl (Zf (Zg ?_)))))))))))))
 refine Zbn (vs := []) (v := dgV dz) rfl rfl rfl (by kernel_rfl) ?_
 refine Zx (p := pt 1 0) (v := dgV dz) (b := 1) (blk := dgB dz) (H' := [dgB master, dgB dz, hole]) rfl rfl rfl (by kernel_rfl) (by kernel_rfl) ?_
 refine Zc rfl rfl (Iv 50) rfl (Za (Zb (Zt (Z3 (Zu ?_)))))
 rw [show Zbt kk master region node = (dz, 50) from if_neg (by omega)]
 exact Zm (v := .tuple #[dgV dz, Iv 50]) (by kernel_rfl) rfl rfl (by kernel_rfl) ⟨(Zcr (Zb0 fun _ => rfl) rfl), rfl, trivial⟩
 refine Zk (vx := Iv region) (vy := Iv 5) rfl rfl (.bool false) rfl rfl (Zej (by omega)) ?_
 refine Zo rfl rfl (.bool false) rfl (Ze rfl rfl (.bool false) rfl (Ze rfl rfl (Iv node) rfl ?_))
 by_cases h3 : node < 1
 refine Zk (vx := Iv node) (vy := Iv 1) rfl rfl (.bool true) rfl rfl (Zcq (by omega)) ?_
 refine Zo rfl rfl (.bool true) rfl (Ze rfl rfl (.bool true) rfl (Zj rfl rfl (Zj rfl rfl (Zo rfl rfl (.bool true) rfl (Za (Zb (Zz rfl (Zf (Zg ?_)))))))))
 refine Zbn (vs := []) (v := dgV dz) rfl rfl rfl (by kernel_rfl) ?_
 refine Zx (p := pt 1 0) (v := dgV dz) (b := 1) (blk := dgB dz) (H' := [dgB master, dgB dz, hole]) rfl rfl rfl (by kernel_rfl) (by kernel_rfl) ?_
 refine Zc rfl rfl (Iv 50) rfl (Za (Zb (Zt (Z3 (Zu ?_)))))
 rw [show Zbt kk master region node = (dz, 50) from if_neg (by omega)]
 exact Zm (v := .tuple #[dgV dz, Iv 50]) (by kernel_rfl) rfl rfl (by kernel_rfl) ⟨(Zcr (Zb0 fun _ => rfl) rfl), rfl, trivial⟩
 refine Zk (vx := Iv node) (vy := Iv 1) rfl rfl (.bool false) rfl rfl (Zcj (by omega)) ?_
 refine Zo rfl rfl (.bool false) rfl (Ze rfl rfl (.bool false) rfl (Ze rfl rfl (Iv node) rfl ?_))
 by_cases h4 : 3 < node
 refine Zk (vx := Iv node) (vy := Iv 3) rfl rfl (.bool true) rfl rfl (Zet (by omega)) ?_
 refine Zo rfl rfl (.bool true) rfl (Za (Zb (Zz rfl (Zf (Zg ?_)))))
 refine Zbn (vs := []) (v := dgV dz) rfl rfl rfl (by kernel_rfl) ?_
 refine Zx (p := pt 1 0) (v := dgV dz) (b := 1) (blk := dgB dz) (H' := [dgB master, dgB dz, hole]) rfl rfl rfl (by kernel_rfl) (by kernel_rfl) ?_
 refine Zc rfl rfl (Iv 50) rfl (Za (Zb (Zt (Z3 (Zu ?_)))))
 rw [show Zbt kk master region node = (dz, 50) from if_neg (by omega)]
 exact Zm (v := .tuple #[dgV dz, Iv 50]) (by kernel_rfl) rfl rfl (by kernel_rfl) ⟨(Zcr (Zb0 fun _ => rfl) rfl), rfl, trivial⟩
 refine Zk (vx := Iv node) (vy := Iv 3) rfl rfl (.bool false) rfl rfl (Zej (by omega)) ?_
 refine Zo rfl rfl (.bool false) rfl (Za (Zb (Zv rfl (Z2 (Zb (Zf (Zg ?_)))))))
 refine Zl (p := pt 0 0) (v := dgV master) rfl rfl rfl (by kernel_rfl) ?_
 refine Ze rfl rfl (Iv region) rfl ?_
 refine Zdb (w := Iv region) (v := w8 (BitVec.ofInt 8 region)) rfl rfl rfl (Zgg rfl rfl rfl) ?_
 refine Ze rfl rfl (Iv node) rfl ?_
 refine Zdb (w := Iv node) (v := w8 (BitVec.ofInt 8 node)) rfl rfl rfl (Zgg rfl rfl rfl) ?_
 refine Zda (vs := [(0, w8 (75#8)), (1, w8 (BitVec.ofInt 8 region)), (2, w8 (BitVec.ofInt 8 node))]) (v := slv 2 0 3 3) (blk := Zaq [75#8, (BitVec.ofInt 8 region), (BitVec.ofInt 8 node)]) (nid := 2) (H' := [dgB master, dgB dz, Zaq [75#8, (BitVec.ofInt 8 region), (BitVec.ofInt 8 node)]]) rfl rfl rfl (by kernel_rfl) (by kernel_rfl) ?_
 refine Zfm (p := slv 2 0 3 3) (v := .string (Zn [75#8, (BitVec.ofInt 8 region), (BitVec.ofInt 8 node)])) rfl rfl rfl (Zfl rfl rfl rfl rfl rfl (by have := (rfl : _ = 3); omega)) ?_
 refine Zq (Zvo (G := G) kk hG master (Zn [75#8, (BitVec.ofInt 8 region), (BitVec.ofInt 8 node)]) (by simp [Zay])) (vals := [dgV master, .string (Zn [75#8, (BitVec.ofInt 8 region), (BitVec.ofInt 8 node)])]) (res' := dgV (Zfz kk master (Zn [75#8, (BitVec.ofInt 8 region), (BitVec.ofInt 8 node)]))) rfl rfl rfl rfl rfl (by kernel_rfl) ?_
 refine Zx (p := pt 1 0) (v := dgV (Zfz kk master (Zn [75#8, (BitVec.ofInt 8 region), (BitVec.ofInt 8 node)]))) (b := 1) (blk := dgB (Zfz kk master (Zn [75#8, (BitVec.ofInt 8 region), (BitVec.ofInt 8 node)]))) (H' := [dgB master, dgB (Zfz kk master (Zn [75#8, (BitVec.ofInt 8 region), (BitVec.ofInt 8 node)])), Zaq [75#8, (BitVec.ofInt 8 region), (BitVec.ofInt 8 node)]]) rfl rfl rfl (by kernel_rfl) (by kernel_rfl) ?_
 refine Zc rfl rfl (Iv 0) rfl (Za (Zb (Zt (Zu ?_))))
 rw [show Zbt kk master region node = ((Zfz kk master (Zn [75#8, (BitVec.ofInt 8 region), (BitVec.ofInt 8 node)])), 0) from if_pos (by omega)]
 exact Zm (v := .tuple #[dgV (Zfz kk master (Zn [75#8, (BitVec.ofInt 8 region), (BitVec.ofInt 8 node)])), Iv 0]) (by kernel_rfl) rfl rfl (by kernel_rfl) ⟨(Zcr (Zb0 fun _ => rfl) rfl), rfl, trivial⟩
def Zf4 (kk : Nat → BitVec 32) (master : D) (region node : Int) (s : ByteArray) (t : D) : Int :=
  if ((Zbt kk master region node).2) ≠ 0 then ((Zbt kk master region node).2) else
  if Za6 32 (Zfz kk ((Zbt kk master region node).1) s) t = true then 0 else
  72
theorem Z0r (kk : Nat → BitVec 32) (hG : G 0 = some (Zac w32 64 kk)) (master : D) (region node : Int) (s : ByteArray) (t : D) (hs : s.size ≤ 1048576) : Zae Tryd.prog G 68 [dgV master, Iv region, Iv node, .string s, dgV t] [] (Iv (Zf4 kk master region node s t)) [] := by
 refine Zbj (fn := Tryd.f68) (nt := 31) rfl rfl rfl rfl ?_
 refine Zaj 3 (H' := [hole, hole, hole]) rfl ?_
 refine Zf (Zg ?_)
 refine Zbr (v := dgV master) (b := dgB master) (nid := 0) (H' := [dgB master, hole, hole]) rfl rfl rfl (by kernel_rfl) (by kernel_rfl) ?_
 refine Zbr (v := dgV t) (b := dgB t) (nid := 1) (H' := [dgB master, dgB t, hole]) rfl rfl rfl (by kernel_rfl) (by kernel_rfl) ?_
 refine Zc rfl rfl (Iv 0) rfl (Za (Zb (Zf (Zg ?_))))
 refine Zl (p := pt 0 0) (v := dgV master) rfl rfl rfl (by kernel_rfl) ?_
 refine Ze rfl rfl (Iv region) rfl (Ze rfl rfl (Iv node) rfl ?_)
 refine Zq (Z0u (G := G) kk hG master region node) (vals := [dgV master, Iv region, Iv node]) (res' := .tuple #[dgV ((Zbt kk master region node).1), Iv ((Zbt kk master region node).2)]) rfl rfl rfl rfl rfl (by kernel_rfl) ?_
 refine Ze rfl rfl (.tuple #[dgV ((Zbt kk master region node).1), Iv ((Zbt kk master region node).2)]) rfl (Zp (vs := #[dgV ((Zbt kk master region node).1), Iv ((Zbt kk master region node).2)]) (v := dgV ((Zbt kk master region node).1)) rfl rfl rfl rfl (Zp (vs := #[dgV ((Zbt kk master region node).1), Iv ((Zbt kk master region node).2)]) (v := Iv ((Zbt kk master region node).2)) rfl rfl rfl rfl ?_))
 refine Z7 (b := dgB dz) (nid := 2) (H' := [dgB master, dgB t, dgB dz]) rfl rfl (by kernel_rfl) (by kernel_rfl) ?_
 refine Zx (p := pt 2 0) (v := dgV ((Zbt kk master region node).1)) (b := 2) (blk := dgB ((Zbt kk master region node).1)) (H' := [dgB master, dgB t, dgB ((Zbt kk master region node).1)]) rfl rfl rfl (by kernel_rfl) (by kernel_rfl) ?_
 refine Zc rfl rfl (Iv ((Zbt kk master region node).2)) rfl (Za (Zb (Zf (Z9 (Zf (Zg (Ze rfl rfl (Iv ((Zbt kk master region node).2)) rfl ?_)))))))
 by_cases h1 : ((Zbt kk master region node).2) ≠ 0
 refine Zk (vx := Iv ((Zbt kk master region node).2)) (vy := Iv 0) rfl rfl (.bool true) rfl rfl (Zdg (by omega)) ?_
 refine Zc rfl rfl (.bool true) rfl (Za (Zb (Zz rfl (Zf (Zg (Ze rfl rfl (Iv ((Zbt kk master region node).2)) rfl (Zc rfl rfl (Iv ((Zbt kk master region node).2)) rfl (Za (Zb (Zt (Zbq (Z3 (Zu ?_)))))))))))))
 rw [show Zf4 kk master region node s t = ((Zbt kk master region node).2) from by unfold Zf4; rw [if_pos h1]]
 exact Zm (v := Iv ((Zbt kk master region node).2)) rfl rfl rfl (by kernel_rfl) rfl
 refine Zk (vx := Iv ((Zbt kk master region node).2)) (vy := Iv 0) rfl rfl (.bool false) rfl rfl (Zc5 (by omega)) ?_
 refine Zc rfl rfl (.bool false) rfl (Za (Zb (Zv rfl (Zf ?_))))
 refine Zmz (by kernel_rfl) ?_
 refine Zl (p := pt 2 0) (v := dgV ((Zbt kk master region node).1)) rfl rfl rfl (by kernel_rfl) ?_
 refine Ze rfl rfl (.string s) rfl ?_
 refine Zq (Zvo (G := G) kk hG ((Zbt kk master region node).1) s hs) (vals := [dgV ((Zbt kk master region node).1), .string s]) (res' := dgV (Zfz kk ((Zbt kk master region node).1) s)) rfl rfl rfl rfl rfl (by kernel_rfl) ?_
 refine Zl (p := pt 1 0) (v := dgV t) rfl rfl rfl (by kernel_rfl) ?_
 refine Zq (Z2i (G := G) (Zfz kk ((Zbt kk master region node).1) s) t) (vals := [dgV (Zfz kk ((Zbt kk master region node).1) s), dgV t]) (res' := .bool (Za6 32 (Zfz kk ((Zbt kk master region node).1) s) t)) rfl rfl rfl rfl rfl rfl ?_
 rcases Bool.eq_false_or_eq_true (Za6 32 (Zfz kk ((Zbt kk master region node).1) s) t) with h2 | h2
 refine Zha (vx := .bool (Za6 32 (Zfz kk ((Zbt kk master region node).1) s) t)) rfl rfl (.bool false) rfl (Eq.trans Zd0 (congrArg (fun b => some (Value.bool !b)) h2)) ?_
 refine Zc rfl rfl (.bool false) rfl ?_
 refine Zkm (by kernel_rfl) ?_
 refine Zb (Zv rfl (Z2 (Zab (Zb (Zf (Zg (Zc rfl rfl (Iv 0) rfl (Za (Zb (Zt (Zu ?_)))))))))))
 rw [show Zf4 kk master region node s t = 0 from by unfold Zf4; rw [if_neg h1, if_pos h2]]
 exact Zm (v := Iv 0) rfl rfl rfl (by kernel_rfl) rfl
 refine Zha (vx := .bool (Za6 32 (Zfz kk ((Zbt kk master region node).1) s) t)) rfl rfl (.bool true) rfl (Eq.trans Zd0 (congrArg (fun b => some (Value.bool !b)) h2)) ?_
 refine Zc rfl rfl (.bool true) rfl ?_
 refine Zkm (by kernel_rfl) ?_
 refine Zb (Zz rfl (Zf (Zg (Zc rfl rfl (Iv 72) rfl (Za (Zb (Zt (Zbq (Z3 (Zu ?_))))))))))
 rw [show Zf4 kk master region node s t = 72 from by unfold Zf4; rw [if_neg h1, if_neg (by rw [h2]; decide)]]
 exact Zm (v := Iv 72) rfl rfl rfl (by kernel_rfl) rfl
end Go.Flat
