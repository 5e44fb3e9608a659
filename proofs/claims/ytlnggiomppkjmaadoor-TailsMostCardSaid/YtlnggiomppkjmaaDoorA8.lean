/- Walks. -/
import Derived.Test.YtlnggiomppkjmaaDoorA6
set_option linter.unusedVariables false
set_option linter.unusedSimpArgs false
set_option maxRecDepth 20000
namespace Go.Flat
open Go.Proofs
variable {G : Glob}
theorem Z6x {x y : Int} : orL [x, y] = if x = 0 then y else x := by
 by_cases h : x = 0
 ·rw [if_pos h]
  by_cases h2 : y = 0
  ·rw [h2, h]; exact Zs3 (fun j hj => by match j, hj with | 0, _ => rfl | 1, _ => rfl | j + 2, q => exact absurd q (by simp))
  ·exact Zq9 (l := [x, y]) (i := 1) (fun j hj => by obtain rfl : j = 0 := (by omega); exact h) (by simp) h2
 ·rw [if_neg h]; exact Zq9 (l := [x, y]) (i := 0) (fun j hj => absurd hj (by omega)) (by simp) h
theorem Zr8 {a b : TailT} : 0 < Zk3 a b ↔ b.log < a.log ∨ b.log = a.log ∧ b.items.length < a.items.length := by
 unfold Zk3
 rw [Z6x]; unfold Zcn
 constructor
 ·intro h; repeat (first | omega | split at h)
 ·intro h; repeat (first | omega | split)
theorem Zl8 (l : List (TailT × Nat)) : ∀ i j, j ≤ i → ¬ ((l.getD (Zev l i) default).1.log < (l.getD j default).1.log ∨ (l.getD (Zev l i) default).1.log = (l.getD j default).1.log ∧ (l.getD (Zev l i) default).1.items.length < (l.getD j default).1.items.length)
 | 0, j, h => by obtain rfl : j = 0 := (by omega); rw [show Zev l 0 = 0 from rfl]; omega
 | i + 1, j, h => by
  rw [Zev]
  split
  ·rename_i h1
   rw [Zr8] at h1
   rcases Nat.lt_or_ge j (i + 1) with h2 | h2
   ·have := Zl8 l i j (by omega); omega
   ·obtain rfl : j = i + 1 := (by omega); omega
  ·rename_i h1
   rw [Zr8] at h1
   rcases Nat.lt_or_ge j (i + 1) with h2 | h2
   ·exact Zl8 l i j (by omega)
   ·obtain rfl : j = i + 1 := (by omega); omega
theorem Zqh (l : List (TailT × Nat)) : ∀ i, Zgg l i 1 + Zgg l i 2 + Zgg l i 3 ≤ i
 | 0 => by show (0 : Int) + 0 + 0 ≤ _; omega
 | i + 1 => by
  have h0 := Zqh l i
  have h1 := Zhb l i 1; have h2 := Zhb l i 2; have h3 := Zhb l i 3
  unfold Zgg
  split
  ·unfold Zgu
   repeat (first | omega | split)
  ·omega
section
variable {l : List (TailT × Nat)}
theorem Z0y (h : ¬ Zkd l < 2) : 2 ≤ l.length := by
 have := Zqh l l.length
 unfold Zkd at h; omega
theorem Zim (h : (Zi l).2.2 = true) : ¬ Zkd l < 2 ∧ (Zi l).1 = (l.getD (Zw l) default).1 ∧ (Zi l).2.1 = min (Zit (Zar l)) (l.getD (Zw l) default).1.items.length := by
 unfold Zi at h ⊢
 split at h
 ·cases h
 ·rename_i h1; rw [if_neg h1]; exact ⟨h1, rfl, rfl⟩
theorem Zm5 (t : TailT) : Zdb t t = true := by
 rw [Zti rfl rfl rfl]; exact Zu1 _
theorem Zr6 (h : (Zi l).2.2 = false) : (Zi l).2.1 = 0 ∧ Zdb (Zi l).1 (⟨0, 0, 0, []⟩ : TailT) = true := by
 unfold Zi at h ⊢
 split at h
 ·rename_i h1; rw [if_pos h1]; exact ⟨rfl, Zm5 _⟩
 ·cases h
theorem Zg4 {i : Nat} (h : (Zi l).2.2 = true) (hi : i < l.length) (hq : (Zi l).1.log < (l.getD i default).1.log ∨ (Zi l).1.log = (l.getD i default).1.log ∧ (Zi l).1.items.length < (l.getD i default).1.items.length) : False := by
 obtain ⟨h1, h2, _⟩ := Zim h
 rw [h2] at hq
 exact Zl8 l (l.length - 1) i (by omega) hq
def Zpc (l : List (TailT × Nat)) (t : TailT) (i : Nat) : Bool := (l.take i).any fun x => Zdb x.1 t
theorem Zpp {t : TailT} {i : Nat} (hi : i < l.length) : Zpc l t (i + 1) = (Zpc l t i || Zdb (l.getD i default).1 t) := by
 unfold Zpc
 rw [List.take_succ_eq_append_getElem hi, List.any_append, List.getD_eq_getElem?_getD, List.getElem?_eq_getElem hi]; simp
theorem Zvq {t : TailT} {i : Nat} {b : Bool} (h : b = Zpc l t i) (hb : b = true) (hi : i < l.length) : true = Zpc l t (i + 1) := by
 rw [Zpp hi, ← h, hb]; rfl
theorem Zvo {t : TailT} {i : Nat} {b : Bool} (h : b = Zpc l t i) (hb : b = false) (hi : i < l.length) : Zdb (l.getD i default).1 t = Zpc l t (i + 1) := by
 rw [Zpp hi, ← h, hb]; rfl
theorem Z1o {b : Bool} {i : Nat} (hc : (Zi l).2.2 = true) (h : b = Zpc l (Zi l).1 i) (hi : l.length ≤ i) : b = true := by
 obtain ⟨h1, h2, _⟩ := Zim hc
 have h3 := Znz (Zmv h1)
 rw [h]
 unfold Zpc
 rw [List.take_of_length_le hi, List.any_eq_true]
 refine ⟨l[Zw l], List.getElem_mem h3, ?_⟩
 rw [h2, List.getD_eq_getElem?_getD, List.getElem?_eq_getElem h3]
 exact Zm5 _
def Zp9 (l : List (TailT × Nat)) (n : Int) (i : Nat) : Int := (Zar (l.take i)).foldl max n
theorem Zjz {n m : Int} {i : Nat} (h : m = Zp9 l n i) (hi : i < l.length) : max m (l.getD i default).1.commit = Zp9 l n (i + 1) := by
 unfold Zp9 at h ⊢
 rw [← Zk4 rfl hi, List.foldl_append, ← h]; rfl
theorem Zsn : ∀ (l : List Int) (a b : Int), l.foldl max (max a b) = max a (l.foldl max b)
 | [], a, b => rfl
 | x :: l, a, b => by
  rw [List.foldl_cons, List.foldl_cons, show max (max a b) x = max a (max b x) from by omega]
  exact Zsn l a (max b x)
theorem Zz7 {n m : Int} {i : Nat} (h : m = Zp9 l n i) (hi : l.length ≤ i) (h0 : 0 < l.length) : m = max n (Zit (Zar l)) := by
 rw [h]; unfold Zp9
 rw [List.take_of_length_le hi]
 cases l with
 | nil => simp at h0
 | cons x l =>
  show (Zar (x :: l)).foldl max n = max n ((Zar l).foldl max x.1.commit)
  rw [← Zsn]; rfl
end
theorem Zt8 {l : List (TailT × Nat)} (hB : ∀ i, i < l.length → (l.getD i default).1.items.length ≤ 60) : (Zi l).1.items.length ≤ 60 := by
 unfold Zi
 split
 ·show 0 ≤ 60; omega
 ·rename_i h; exact hB _ (Znz (Zmv h))
open Go.ChangeShapes Go.WideShapes Go.RowKit in
theorem Zut : Zt1 Tryd.prog 26 Zv okT := by
 intro H enc W fuel cs x h
 obtain ⟨xs, n, _, _, hl, hxl, hel⟩ := DataW.trod_struct (P := Tryd.prog) (t := 26) (fs := _) rfl h
 have hl' : cs.length = 4 := hl.trans (by kernel_rfl)
 obtain ⟨a0, e0, b0⟩ := Zaq.at_ (t := 3) (off := 0) (k := 1) (Zaq.int (by kernel_rfl : Tryd.prog.underlying 3 = some (.int .i64))) (hel 0 _ rfl) (by rw [hxl]; decide) rfl (by kernel_rfl) rfl
 have q0 : cs.drop 0 = [Value.int .i64 a0] ++ cs.drop 1 := by rw [Za3 0 1, e0]
 obtain ⟨a1, e1, b1⟩ := Zaq.at_ (t := 3) (off := 1) (k := 1) (Zaq.int (by kernel_rfl : Tryd.prog.underlying 3 = some (.int .i64))) (hel 1 _ rfl) (by rw [hxl]; decide) rfl (by kernel_rfl) rfl
 have q1 : cs.drop 1 = [Value.int .i64 a1] ++ cs.drop 2 := by rw [Za3 1 1, e1]
 obtain ⟨a2, e2, b2⟩ := Zaq.at_ (t := 3) (off := 2) (k := 1) (Zaq.int (by kernel_rfl : Tryd.prog.underlying 3 = some (.int .i64))) (hel 2 _ rfl) (by rw [hxl]; decide) rfl (by kernel_rfl) rfl
 have q2 : cs.drop 2 = [Value.int .i64 a2] ++ cs.drop 3 := by rw [Za3 2 1, e2]
 obtain ⟨v, ps, cap, r, e3, k1, k2, r1, r2, r3, r4, r5, k6, k3, k4⟩ := Z2v (te := 43) (off := 3) Zj Zus (by kernel_rfl : Tryd.prog.underlying 24 = some (.slice 43)) (by kernel_rfl) (hel 3 _ rfl) (by rw [hxl]; decide) rfl (by kernel_rfl) rfl
 have q3 : cs.drop 3 = [v] ++ cs.drop 4 := by rw [Za3 3 1, e3]
 have qe : cs.drop 4 = [] := List.drop_of_length_le (by omega)
 rw [List.drop_zero] at q0
 rw [q1, q2, q3, qe, List.append_nil] at q0
 refine ⟨(⟨a0, a1, a2, ps⟩, cap), r, ⟨⟨k1, k2⟩, ⟨b0.1, b0.2⟩, ⟨b1.1, b1.2⟩, b2.1, b2.2⟩, ⟨r1, r2, r3.trans (Zj.row_len ps).symm, r4, r5⟩, fun j v hj => ⟨k3 j v hj, Zj.row_pure (fun _ => rfl) ps v (List.mem_of_getElem? hj)⟩, fun m b hb => ?_⟩
 rw [q0]
 exact L2.append (L2.pure (a := [Value.int .i64 a0]) rfl) (L2.append (L2.pure (a := [Value.int .i64 a1]) rfl) (L2.append (L2.pure (a := [Value.int .i64 a2]) rfl) (L2.cell (k4 m b hb))))
theorem Zqr (kk : Nat → BitVec 32) (hG : G 0 = some (Zah w32 64 kk)) (hG1 : G 2 = some (Zah u8N 64 dbF)) (l : List (TailT × Nat)) (c : Nat) (hc : l.length ≤ c) (hb : c ≤ 9223372036854775807) (hS : ∀ i, i < l.length → okT (l.getD i default)) : Z6 Tryd.prog G 6 [slv 0 0 l.length c] (Zv.S 0 l) (.bool true) ((Zv.S 0 l) ++ []) := by
  refine Z6.deep (fn := Tryd.f6) (nt := 110) (N := []) 12 rfl rfl rfl rfl Za5 ⟨⟨rfl, rfl, rfl, by first | omega | exact Nat.le_refl _, by first | omega | exact Nat.le_refl _⟩, trivial⟩ rfl rfl ?_
  refine Zg2 (H' := ([(Zv.B 13 l), hole, hole, hole, hole, hole, hole, hole, hole, hole, hole, hole, hole] ++ (l.map Zv.blk))) rfl ?_
  refine Zf (Zg (Zb (.bool false) (Za (Zc (Zf (Zf (Zg (Zd (slv 0 0 l.length c) ?_))))))))
  refine Znr (N := []) (b0 := 0) (kk := 13) (a := 0) (q := l.length) (L := l) (nid := 0) (Z1e (G := G) l c hc hb hS) (vals := [slv 0 0 l.length c]) (v := .bool (Zgl l)) (H' := ([(Zv.B 13 l), hole, hole, hole, hole, hole, hole, hole, hole, hole, hole, hole, hole] ++ (l.map Zv.blk))) rfl rfl rfl rfl rfl rfl Za5 (by simp) (by omega) rfl (fun i hi => Zk7 Zv rfl hi) ⟨⟨rfl, rfl, rfl, by omega, by omega⟩, trivial⟩ rfl rfl rfl (by kernel_rfl) ?_
  refine Za (Zc ?_)
  rcases Bool.eq_false_or_eq_true (Zgl l) with h1 | h1
  refine Zz (congrArg Value.bool h1) (Zf (Zg (Zb (.bool true) (Za (Zc (Zr (Z3 ?_)))))))
  exact Zgk (v := .bool true) rfl ⟨rfl, fun i hi => Zco Zv rfl hi, [], rfl, by decide, rfl, rfl⟩
  refine Zt (congrArg Value.bool h1) (Zy (Zc (Zf ?_)))
  have hbg := Zyu (by assumption : Zgl l = false)
  have hB := hbg.2
  have hl20 := hbg.1
  have hcl := Zt8 (l := l) hB
  refine Zg (Zd (slv 0 0 l.length c) ?_)
  refine Znr (N := [rwB Zj ((Zi l).1.items)]) (b0 := 0) (kk := 13) (a := 0) (q := l.length) (L := l) (nid := 1) (Zjs (G := G) l c hc hb hS hB (by omega)) (vals := [slv 0 0 l.length c]) (v := .tuple #[mxV ([Iv ((Zi l).1.node), Iv ((Zi l).1.log), Iv ((Zi l).1.commit), slv 1 0 ((Zi l).1.items.length) ((Zi l).1.items.length)]), Iv ((Zi l).2.1), .bool ((Zi l).2.2)]) (H' := ([(Zv.B 13 l), rwB Zj ((Zi l).1.items), hole, hole, hole, hole, hole, hole, hole, hole, hole, hole, hole] ++ (l.map Zv.blk))) rfl rfl rfl rfl rfl rfl Za5 (by simp) (by omega) rfl (fun i hi => Zk7 Zv rfl hi) ⟨⟨rfl, rfl, rfl, by omega, by omega⟩, trivial⟩ rfl rfl (Z0s (Z0q (by kernel_rfl) (congrArg (fun q => [Value.int .i64 (Zi l).1.node, Iv (Zi l).1.log, Iv (Zi l).1.commit, q]) (Zrf (Dcod.ext_new (j := 0) rfl (by show 0 < 1; decide))))) (Z0r rfl) (Z0r rfl)) (by kernel_rfl) ?_
  refine Zd (.tuple #[mxV ([Iv ((Zi l).1.node), Iv ((Zi l).1.log), Iv ((Zi l).1.commit), slv 1 0 ((Zi l).1.items.length) ((Zi l).1.items.length)]), Iv ((Zi l).2.1), .bool ((Zi l).2.2)]) (Z1 (vs := #[mxV ([Iv ((Zi l).1.node), Iv ((Zi l).1.log), Iv ((Zi l).1.commit), slv 1 0 ((Zi l).1.items.length) ((Zi l).1.items.length)]), Iv ((Zi l).2.1), .bool ((Zi l).2.2)]) (v := mxV ([Iv ((Zi l).1.node), Iv ((Zi l).1.log), Iv ((Zi l).1.commit), slv 1 0 ((Zi l).1.items.length) ((Zi l).1.items.length)])) (Z1 (vs := #[mxV ([Iv ((Zi l).1.node), Iv ((Zi l).1.log), Iv ((Zi l).1.commit), slv 1 0 ((Zi l).1.items.length) ((Zi l).1.items.length)]), Iv ((Zi l).2.1), .bool ((Zi l).2.2)]) (v := Iv ((Zi l).2.1)) (Z1 (vs := #[mxV ([Iv ((Zi l).1.node), Iv ((Zi l).1.log), Iv ((Zi l).1.commit), slv 1 0 ((Zi l).1.items.length) ((Zi l).1.items.length)]), Iv ((Zi l).2.1), .bool ((Zi l).2.2)]) (v := .bool ((Zi l).2.2)) ?_)))
  refine Zge (b := (mxW 4 ([Iv 0, Iv 0, Iv 0, .slice none 0 0]))) (nid := 2) (H' := ([(Zv.B 13 l), rwB Zj ((Zi l).1.items), (mxW 4 ([Iv 0, Iv 0, Iv 0, .slice none 0 0])), hole, hole, hole, hole, hole, hole, hole, hole, hole, hole] ++ (l.map Zv.blk))) rfl rfl (by kernel_rfl) (by kernel_rfl) ?_
  refine Zab (p := pt 2 0) (v := mxV ([Iv ((Zi l).1.node), Iv ((Zi l).1.log), Iv ((Zi l).1.commit), slv 1 0 ((Zi l).1.items.length) ((Zi l).1.items.length)])) (b := 2) (blk := (mxW 4 ([Iv ((Zi l).1.node), Iv ((Zi l).1.log), Iv ((Zi l).1.commit), slv 1 0 ((Zi l).1.items.length) ((Zi l).1.items.length)]))) (H' := ([(Zv.B 13 l), rwB Zj ((Zi l).1.items), (mxW 4 ([Iv ((Zi l).1.node), Iv ((Zi l).1.log), Iv ((Zi l).1.commit), slv 1 0 ((Zi l).1.items.length) ((Zi l).1.items.length)])), hole, hole, hole, hole, hole, hole, hole, hole, hole, hole] ++ (l.map Zv.blk))) (Zb (Iv ((Zi l).2.1)) (Zb (.bool ((Zi l).2.2)) (Za (Zc (Zf (Zf (Zg (Zd (.bool ((Zi l).2.2)) ?_))))))))
  rcases Bool.eq_false_or_eq_true ((Zi l).2.2) with h2 | h2
  refine Zgj (vx := .bool ((Zi l).2.2)) rfl rfl (.bool false) rfl (Eq.trans Zdd (congrArg (fun b => some (Value.bool !b)) h2)) ?_
  refine Za (Zc (Zt rfl (Zy (Zc (Zf ?_)))))
  have hcf := Zim (by assumption : (Zi l).2.2 = true)
  have hl2 := Z0y hcf.1
  have hle : (Zi l).2.1 ≤ ((Zi l).1.items.length : Int) := by rw [hcf.2.2, hcf.2.1]; omega
  refine Zg (Zb (.bool false) (Za (Zc (Zf (Zg (Zd (Iv ((Zi l).2.1)) (Zb (Iv ((Zi l).2.1)) (Za (Zc (Zf (Zf (Zg (Zb (Iv 0) (Za (Zc (Z8 ?_))))))))))))))))
  refine Zbs (fun x : Nat × Bool × Int => match x with | (i, inb, m) => [slv 0 0 l.length c, dead, dead, pt 2 0, Iv ((Zi l).2.1), .bool ((Zi l).2.2), .bool inb, Iv m, Iv (i : Nat), slv 0 0 l.length c, .bool (Zgl l), .tuple #[mxV ([Iv ((Zi l).1.node), Iv ((Zi l).1.log), Iv ((Zi l).1.commit), slv 1 0 ((Zi l).1.items.length) ((Zi l).1.items.length)]), Iv ((Zi l).2.1), .bool ((Zi l).2.2)], slv 0 0 l.length c, .tuple #[mxV ([Iv ((Zi l).1.node), Iv ((Zi l).1.log), Iv ((Zi l).1.commit), slv 1 0 ((Zi l).1.items.length) ((Zi l).1.items.length)]), Iv ((Zi l).2.1), .bool ((Zi l).2.2)], mxV ([Iv ((Zi l).1.node), Iv ((Zi l).1.log), Iv ((Zi l).1.commit), slv 1 0 ((Zi l).1.items.length) ((Zi l).1.items.length)]), Iv ((Zi l).2.1), .bool ((Zi l).2.2), .bool ((Zi l).2.2), .bool false, dead, dead, dead, dead, dead, dead, dead, dead, dead, dead, Iv ((Zi l).2.1)]) (fun x : Nat × Bool × Int => match x with | (i, inb, m) => ([(Zv.B 13 l), rwB Zj ((Zi l).1.items), (mxW 4 ([Iv ((Zi l).1.node), Iv ((Zi l).1.log), Iv ((Zi l).1.commit), slv 1 0 ((Zi l).1.items.length) ((Zi l).1.items.length)])), hole, hole, hole, hole, hole, hole, hole, hole, hole, hole] ++ (l.map Zv.blk))) (fun x : Nat × Bool × Int => match x with | (i, inb, m) => inb = Zpc l (Zi l).1 i ∧ i ≤ l.length ∧ m = Zp9 l (Zi l).2.1 i) (fun x : Nat × Bool × Int => match x with | (i, inb, m) => l.length - i) (0, false, ((Zi l).2.1)) ⟨rfl, by omega, rfl⟩ ?_ ?_
  · refine Zba.drop [] rfl (fun b => rfl) ?_ (fun x _ => Zlo x)
    repeat (first | exact trivial | refine ⟨.inl rfl, ?_⟩ | refine ⟨.inr ⟨rfl, rfl⟩, ?_⟩ | refine ⟨.inr ⟨congrArg (Value.int .i64) (by first | omega | (dsimp only; omega)), rfl⟩, ?_⟩)
  rintro ⟨i, inb, m⟩ ⟨hA, hi, hM⟩
  dsimp only at *
  refine Zf (Zf (Zg (Zd (Iv (i : Nat)) (Zd (slv 0 0 l.length c) (Zav (p := slv 0 0 l.length c) (v := Iv (l.length : Nat)) ?_)))))
  by_cases h3 : (i : Nat) < (l.length : Nat)
  refine Zm (vx := Iv (i : Nat)) (vy := Iv (l.length : Nat)) rfl rfl (.bool true) rfl rfl (Zcz (by omega)) ?_
  refine Za (Zc (Zz rfl (Zy (Zc (Zf (Z8 (Zf ?_)))))))
  have hok := hS i (by omega)
  obtain ⟨⟨ho1, ho2⟩, ⟨ho3, ho4⟩, ⟨ho5, ho6⟩, ho7, ho8⟩ := hok
  have hbi := hB i (by omega)
  refine Zgn (by kernel_rfl) ?_
  refine Zd (.bool inb) (Zd (.bool inb) ?_)
  rcases Bool.eq_false_or_eq_true inb with h4 | h4
  refine Zkp (by exact congrArg (fun b => some (b == false)) h4) rfl ?_
  refine Zkp (by exact congrArg (fun b => some (b == false)) h4) rfl ?_
  refine Zkp (by exact congrArg (fun b => some (b == false)) h4) rfl ?_
  refine Zkp (by exact congrArg (fun b => some (b == false)) h4) rfl ?_
  refine Zkp (by exact congrArg (fun b => some (b == false)) h4) rfl ?_
  refine Zkp (by exact congrArg (fun b => some (b == false)) h4) rfl ?_
  refine Zre rfl rfl (.bool true) (by show some (if _ then _ else _) = _; rw [h4] <;> rfl) ?_
  refine Zb (.bool true) ?_
  refine Zd3 (Zct [[], [0], [0, 1], [0, 1], [0, 1, 2, 3], [0, 1, 2, 3, 4], [0, 1], [0, 1, 2, 3, 4, 5, 6], [0, 1, 2, 3, 4, 5, 6, 7], [0, 1, 2, 3, 4, 5, 6, 7, 8]] (by kernel_rfl) (by kernel_rfl)) ?_
  refine Zc (Zf (Zg (Zd (Iv m) (Zd (slv 0 0 l.length c) (Zd (Iv (i : Nat)) ?_)))))
  refine Zbb (b := 0) (o := 0) (j := i * 4) (m := l.length) (c := c) (sz := 4) (i := (i : Nat)) (k := .i64) rfl rfl rfl rfl rfl (by omega) (by omega) (by omega) ?_
  refine Zam (b := 0) (o := i * 4) (n := 2) (o' := i * 4 + 2) rfl rfl rfl rfl (by omega) ?_
  refine Zae (p := pt 0 (i * 4 + 2)) (v := Iv ((l.getD i default).1.commit)) rfl rfl rfl (Zer Zv (l := l) (i := i) (K := 13) (k := 2) (n := 4) rfl rfl rfl (by omega) (by omega) (by decide) (by kernel_rfl) rfl) ?_
  refine Z0n (vs := [Iv m, Iv ((l.getD i default).1.commit)]) (v := Iv (max m ((l.getD i default).1.commit))) rfl rfl rfl Zuq ?_
  refine Zb (Iv (max m ((l.getD i default).1.commit))) (Za (Zc (Zf ?_)))
  refine Zfw (by kernel_rfl) ?_
  refine Zd (slv 0 0 l.length c) (Zd (Iv (i : Nat)) ?_)
  refine Zbb (b := 0) (o := 0) (j := i * 4) (m := l.length) (c := c) (sz := 4) (i := (i : Nat)) (k := .i64) rfl rfl rfl rfl rfl (by omega) (by omega) (by omega) ?_
  refine Zam (b := 0) (o := i * 4) (n := 1) (o' := i * 4 + 1) rfl rfl rfl rfl (by omega) ?_
  refine Zae (p := pt 0 (i * 4 + 1)) (v := Iv ((l.getD i default).1.log)) rfl rfl rfl (Zer Zv (l := l) (i := i) (K := 13) (k := 1) (n := 4) rfl rfl rfl (by omega) (by omega) (by decide) (by kernel_rfl) rfl) ?_
  refine Zh (b := 2) (o := 0) (n := 1) (o' := 1) (Zo (p := pt 2 1) (v := Iv ((Zi l).1.log)) ?_)
  by_cases h5 : ((Zi l).1.log) < ((l.getD i default).1.log)
  refine Zm (vx := Iv ((l.getD i default).1.log)) (vy := Iv ((Zi l).1.log)) rfl rfl (.bool true) rfl rfl (Zfa (by omega)) ?_
  refine Zd (.bool true) (Ze (Ze (Ze (Ze (Ze (Ze (Ze (Ze (Ze (Ze (Ze (Ze (Ze (Ze (Ze (Ze (Ze (Ze (Ze (Ze (Zl (.bool true) ?_)))))))))))))))))))))
  refine Zcm (Zb2 [[], [], [0, 1], [0, 1, 2], [0, 1, 2, 3], [], [5], [0, 1, 2, 3, 4, 5, 6], [0, 1, 2, 3, 4, 5, 6, 7], [0, 1, 2, 3, 4, 5, 6, 7, 8], [0, 1, 2, 3, 4, 5, 6, 7, 8], [0, 1, 2, 3, 4, 5, 6, 7, 8, 9, 10], [0, 1, 2, 3, 4, 5, 6, 7, 8, 9, 10, 11], [0, 1, 2, 3, 4, 5, 6, 7, 8, 9, 10, 11, 12], [0, 1, 2, 3, 4, 5, 6, 7, 8], [0, 1, 2, 3, 4, 5, 6, 7, 8, 14], [0, 1, 2, 3, 4, 5, 6, 7, 8, 9, 10, 11, 12, 13, 14, 15], [0, 1, 2, 3, 4, 5, 6, 7, 8, 9, 10, 11, 12, 13, 14, 15, 16], [0, 1, 2, 3, 4, 5, 6, 7, 8, 9, 10, 11, 12, 13, 14, 15, 16, 17], [0, 1, 2, 3, 4, 5, 6, 7, 8, 9, 10, 11, 12, 13, 14, 15, 16, 17], [0, 1, 2, 3, 4, 5, 6, 7, 8, 9, 10, 11, 12, 13, 14, 15, 16, 17, 18, 19], [0, 1, 2, 3, 4, 5, 6, 7, 8, 9, 10, 11, 12, 13, 14, 15, 16, 17, 18, 19, 20], [0, 1, 2, 3, 4, 5, 6, 7, 8, 9, 10, 11, 12, 13, 14, 15, 16, 17, 18, 19, 20, 21], [0, 1, 2, 3, 4, 5, 6, 7, 8, 9, 10, 11, 12, 13, 14, 15, 16, 17, 18, 19, 20, 21, 22], [0, 1, 2, 3, 4, 5, 6, 7, 8, 9, 10, 11, 12, 13, 14, 15, 16, 17], [0, 1, 2, 3, 4, 5, 6, 7, 8, 9, 10, 11, 12, 13, 14, 15, 16, 17, 24], [0, 1, 2, 3, 4, 5, 6, 7, 8, 9, 10, 11, 12, 13, 14, 15, 16, 17, 24, 25], [0, 1, 2, 3, 4, 5, 6, 7, 8, 9, 10, 11, 12, 13, 14, 15, 16, 17, 18, 19, 20, 21, 22, 23, 24, 25, 26], [0, 1, 2, 3, 4, 5, 6, 7, 8, 9, 10, 11, 12, 13, 14, 15, 16, 17, 18, 19, 20, 21, 22, 23, 24, 25, 26, 27], [0, 1, 2, 3, 4, 5, 6, 7, 8, 9, 10, 11, 12, 13, 14, 15, 16, 17, 18, 19, 20, 21, 22, 23, 24, 25, 26, 27, 28]] (by kernel_rfl) (by kernel_rfl)) ?_
  refine Zc (Zz rfl (Zf (Zg (Zb (.bool false) (Za (Zc (Zr (Zao (Z3 (Zcr (Zao (Z3 ?_))))))))))))
  exfalso
  first | omega | exact Zg4 (i := i) (by assumption) (by omega) (by first | exact .inl (by omega) | exact .inr ⟨by omega, by omega⟩)
  refine Zm (vx := Iv ((l.getD i default).1.log)) (vy := Iv ((Zi l).1.log)) rfl rfl (.bool false) rfl rfl (Ze9 (by omega)) ?_
  refine Zd (.bool false) (Zd (slv 0 0 l.length c) (Zd (Iv (i : Nat)) ?_))
  refine Zbb (b := 0) (o := 0) (j := i * 4) (m := l.length) (c := c) (sz := 4) (i := (i : Nat)) (k := .i64) rfl rfl rfl rfl rfl (by omega) (by omega) (by omega) ?_
  refine Zam (b := 0) (o := i * 4) (n := 1) (o' := i * 4 + 1) rfl rfl rfl rfl (by omega) ?_
  refine Zae (p := pt 0 (i * 4 + 1)) (v := Iv ((l.getD i default).1.log)) rfl rfl rfl (Zer Zv (l := l) (i := i) (K := 13) (k := 1) (n := 4) rfl rfl rfl (by omega) (by omega) (by decide) (by kernel_rfl) rfl) ?_
  refine Zh (b := 2) (o := 0) (n := 1) (o' := 1) (Zo (p := pt 2 1) (v := Iv ((Zi l).1.log)) ?_)
  by_cases h6 : ((l.getD i default).1.log) = ((Zi l).1.log)
  refine Zm (vx := Iv ((l.getD i default).1.log)) (vy := Iv ((Zi l).1.log)) rfl rfl (.bool true) rfl rfl (Zc3 (by omega)) ?_
  refine Zd (.bool true) (Zd (slv 0 0 l.length c) (Zd (Iv (i : Nat)) ?_))
  refine Zbb (b := 0) (o := 0) (j := i * 4) (m := l.length) (c := c) (sz := 4) (i := (i : Nat)) (k := .i64) rfl rfl rfl rfl rfl (by omega) (by omega) (by omega) ?_
  refine Zam (b := 0) (o := i * 4) (n := 3) (o' := i * 4 + 3) rfl rfl rfl rfl (by omega) ?_
  refine Zae (p := pt 0 (i * 4 + 3)) (v := slv (i + 13) 0 ((l.getD i default).1.items.length) ((l.getD i default).2)) rfl rfl rfl (Zer Zv (l := l) (i := i) (K := 13) (k := 3) (n := 4) rfl rfl rfl (by omega) (by omega) (by decide) (by kernel_rfl) rfl) ?_
  refine Zav (p := slv (i + 13) 0 ((l.getD i default).1.items.length) ((l.getD i default).2)) (v := Iv ((((l.getD i default).1.items.length) : Nat) : Int)) (Zh (b := 2) (o := 0) (n := 3) (o' := 3) (Zo (p := pt 2 3) (v := slv 1 0 ((Zi l).1.items.length) ((Zi l).1.items.length)) (Zav (p := slv 1 0 ((Zi l).1.items.length) ((Zi l).1.items.length)) (v := Iv ((((Zi l).1.items.length) : Nat) : Int)) ?_)))
  by_cases h7 : ((((Zi l).1.items.length) : Nat) : Int) < ((((l.getD i default).1.items.length) : Nat) : Int)
  refine Zm (vx := Iv ((((l.getD i default).1.items.length) : Nat) : Int)) (vy := Iv ((((Zi l).1.items.length) : Nat) : Int)) rfl rfl (.bool true) rfl rfl (Zfa (by omega)) ?_
  refine Zl (.bool true) (Zl (.bool true) ?_)
  refine Zcm (Zb2 [[], [], [0, 1], [0, 1, 2], [0, 1, 2, 3], [], [5], [0, 1, 2, 3, 4, 5, 6], [0, 1, 2, 3, 4, 5, 6, 7], [0, 1, 2, 3, 4, 5, 6, 7, 8], [0, 1, 2, 3, 4, 5, 6, 7, 8], [0, 1, 2, 3, 4, 5, 6, 7, 8, 9, 10], [0, 1, 2, 3, 4, 5, 6, 7, 8, 9, 10, 11], [0, 1, 2, 3, 4, 5, 6, 7, 8, 9, 10, 11, 12], [0, 1, 2, 3, 4, 5, 6, 7, 8], [0, 1, 2, 3, 4, 5, 6, 7, 8, 14], [0, 1, 2, 3, 4, 5, 6, 7, 8, 9, 10, 11, 12, 13, 14, 15], [0, 1, 2, 3, 4, 5, 6, 7, 8, 9, 10, 11, 12, 13, 14, 15, 16], [0, 1, 2, 3, 4, 5, 6, 7, 8, 9, 10, 11, 12, 13, 14, 15, 16, 17], [0, 1, 2, 3, 4, 5, 6, 7, 8, 9, 10, 11, 12, 13, 14, 15, 16, 17], [0, 1, 2, 3, 4, 5, 6, 7, 8, 9, 10, 11, 12, 13, 14, 15, 16, 17, 18, 19], [0, 1, 2, 3, 4, 5, 6, 7, 8, 9, 10, 11, 12, 13, 14, 15, 16, 17, 18, 19, 20], [0, 1, 2, 3, 4, 5, 6, 7, 8, 9, 10, 11, 12, 13, 14, 15, 16, 17, 18, 19, 20, 21], [0, 1, 2, 3, 4, 5, 6, 7, 8, 9, 10, 11, 12, 13, 14, 15, 16, 17, 18, 19, 20, 21, 22], [0, 1, 2, 3, 4, 5, 6, 7, 8, 9, 10, 11, 12, 13, 14, 15, 16, 17], [0, 1, 2, 3, 4, 5, 6, 7, 8, 9, 10, 11, 12, 13, 14, 15, 16, 17, 24], [0, 1, 2, 3, 4, 5, 6, 7, 8, 9, 10, 11, 12, 13, 14, 15, 16, 17, 24, 25], [0, 1, 2, 3, 4, 5, 6, 7, 8, 9, 10, 11, 12, 13, 14, 15, 16, 17, 18, 19, 20, 21, 22, 23, 24, 25, 26], [0, 1, 2, 3, 4, 5, 6, 7, 8, 9, 10, 11, 12, 13, 14, 15, 16, 17, 18, 19, 20, 21, 22, 23, 24, 25, 26, 27], [0, 1, 2, 3, 4, 5, 6, 7, 8, 9, 10, 11, 12, 13, 14, 15, 16, 17, 18, 19, 20, 21, 22, 23, 24, 25, 26, 27, 28]] (by kernel_rfl) (by kernel_rfl)) ?_
  refine Zc (Zz rfl (Zf (Zg (Zb (.bool false) (Za (Zc (Zr (Zao (Z3 (Zcr (Zao (Z3 ?_))))))))))))
  exfalso
  first | omega | exact Zg4 (i := i) (by assumption) (by omega) (by first | exact .inl (by omega) | exact .inr ⟨by omega, by omega⟩)
  refine Zm (vx := Iv ((((l.getD i default).1.items.length) : Nat) : Int)) (vy := Iv ((((Zi l).1.items.length) : Nat) : Int)) rfl rfl (.bool false) rfl rfl (Ze9 (by omega)) ?_
  refine Zl (.bool false) (Zl (.bool false) ?_)
  refine Zcm (Zb2 [[], [], [0, 1], [0, 1, 2], [0, 1, 2, 3], [], [5], [0, 1, 2, 3, 4, 5, 6], [0, 1, 2, 3, 4, 5, 6, 7], [0, 1, 2, 3, 4, 5, 6, 7, 8], [0, 1, 2, 3, 4, 5, 6, 7, 8], [0, 1, 2, 3, 4, 5, 6, 7, 8, 9, 10], [0, 1, 2, 3, 4, 5, 6, 7, 8, 9, 10, 11], [0, 1, 2, 3, 4, 5, 6, 7, 8, 9, 10, 11, 12], [0, 1, 2, 3, 4, 5, 6, 7, 8], [0, 1, 2, 3, 4, 5, 6, 7, 8, 14], [0, 1, 2, 3, 4, 5, 6, 7, 8, 9, 10, 11, 12, 13, 14, 15], [0, 1, 2, 3, 4, 5, 6, 7, 8, 9, 10, 11, 12, 13, 14, 15, 16], [0, 1, 2, 3, 4, 5, 6, 7, 8, 9, 10, 11, 12, 13, 14, 15, 16, 17], [0, 1, 2, 3, 4, 5, 6, 7, 8, 9, 10, 11, 12, 13, 14, 15, 16, 17], [0, 1, 2, 3, 4, 5, 6, 7, 8, 9, 10, 11, 12, 13, 14, 15, 16, 17, 18, 19], [0, 1, 2, 3, 4, 5, 6, 7, 8, 9, 10, 11, 12, 13, 14, 15, 16, 17, 18, 19, 20], [0, 1, 2, 3, 4, 5, 6, 7, 8, 9, 10, 11, 12, 13, 14, 15, 16, 17, 18, 19, 20, 21], [0, 1, 2, 3, 4, 5, 6, 7, 8, 9, 10, 11, 12, 13, 14, 15, 16, 17, 18, 19, 20, 21, 22], [0, 1, 2, 3, 4, 5, 6, 7, 8, 9, 10, 11, 12, 13, 14, 15, 16, 17], [0, 1, 2, 3, 4, 5, 6, 7, 8, 9, 10, 11, 12, 13, 14, 15, 16, 17, 24], [0, 1, 2, 3, 4, 5, 6, 7, 8, 9, 10, 11, 12, 13, 14, 15, 16, 17, 24, 25], [0, 1, 2, 3, 4, 5, 6, 7, 8, 9, 10, 11, 12, 13, 14, 15, 16, 17, 18, 19, 20, 21, 22, 23, 24, 25, 26], [0, 1, 2, 3, 4, 5, 6, 7, 8, 9, 10, 11, 12, 13, 14, 15, 16, 17, 18, 19, 20, 21, 22, 23, 24, 25, 26, 27], [0, 1, 2, 3, 4, 5, 6, 7, 8, 9, 10, 11, 12, 13, 14, 15, 16, 17, 18, 19, 20, 21, 22, 23, 24, 25, 26, 27, 28]] (by kernel_rfl) (by kernel_rfl)) ?_
  refine Zc (Zt rfl (Zy (Z7 (Zc (Zg (Zd (Iv (i : Nat)) ?_))))))
  refine Zm (vx := Iv (i : Nat)) (vy := Iv 1) rfl rfl (Iv ((i : Nat) + 1)) rfl rfl (Zal (by omega) (by omega) (by omega)) ?_
  refine Zb (Iv ((i : Nat) + 1)) (Za ?_)
  refine Zak ⟨((i + 1), true, (max m ((l.getD i default).1.commit))), ⟨by first | exact Zvq hA (by assumption) (by omega) | exact Zvo hA (by assumption) (by omega), by dsimp only; omega, Zjz hM (by omega)⟩, by show l.length - (i + 1) < l.length - i; omega, ?_⟩
  refine Zba.drop [] rfl (Zff rfl rfl) ?_ (Ze2 (Zk (Ze4 Zv Za5 (by decide)) (Zk (.inl rfl) (Zk (.inr (by kernel_rfl)) (Zk (.inl rfl) (Zk (.inl rfl) (Zk (.inl rfl) (Zk (.inl rfl) (Zk (.inl rfl) (Zk (.inl rfl) (Zk (.inl rfl) (Zk (.inl rfl) (Zk (.inl rfl) (Zk (.inl rfl) Zd2))))))))))))) (Ze3 Zv Za5))
  repeat (first | exact trivial | refine ⟨.inl rfl, ?_⟩ | refine ⟨.inr ⟨rfl, rfl⟩, ?_⟩ | refine ⟨.inr ⟨congrArg (Value.int .i64) (by first | omega | (dsimp only; omega)), rfl⟩, ?_⟩)
  refine Zm (vx := Iv ((l.getD i default).1.log)) (vy := Iv ((Zi l).1.log)) rfl rfl (.bool false) rfl rfl (Zdo (by omega)) ?_
  refine Zd (.bool false) (Ze (Ze (Ze (Ze (Ze (Ze (Ze (Ze (Ze (Ze (Zl (.bool false) (Zl (.bool false) ?_))))))))))))
  refine Zcm (Zb2 [[], [], [0, 1], [0, 1, 2], [0, 1, 2, 3], [], [5], [0, 1, 2, 3, 4, 5, 6], [0, 1, 2, 3, 4, 5, 6, 7], [0, 1, 2, 3, 4, 5, 6, 7, 8], [0, 1, 2, 3, 4, 5, 6, 7, 8], [0, 1, 2, 3, 4, 5, 6, 7, 8, 9, 10], [0, 1, 2, 3, 4, 5, 6, 7, 8, 9, 10, 11], [0, 1, 2, 3, 4, 5, 6, 7, 8, 9, 10, 11, 12], [0, 1, 2, 3, 4, 5, 6, 7, 8], [0, 1, 2, 3, 4, 5, 6, 7, 8, 14], [0, 1, 2, 3, 4, 5, 6, 7, 8, 9, 10, 11, 12, 13, 14, 15], [0, 1, 2, 3, 4, 5, 6, 7, 8, 9, 10, 11, 12, 13, 14, 15, 16], [0, 1, 2, 3, 4, 5, 6, 7, 8, 9, 10, 11, 12, 13, 14, 15, 16, 17], [0, 1, 2, 3, 4, 5, 6, 7, 8, 9, 10, 11, 12, 13, 14, 15, 16, 17], [0, 1, 2, 3, 4, 5, 6, 7, 8, 9, 10, 11, 12, 13, 14, 15, 16, 17, 18, 19], [0, 1, 2, 3, 4, 5, 6, 7, 8, 9, 10, 11, 12, 13, 14, 15, 16, 17, 18, 19, 20], [0, 1, 2, 3, 4, 5, 6, 7, 8, 9, 10, 11, 12, 13, 14, 15, 16, 17, 18, 19, 20, 21], [0, 1, 2, 3, 4, 5, 6, 7, 8, 9, 10, 11, 12, 13, 14, 15, 16, 17, 18, 19, 20, 21, 22], [0, 1, 2, 3, 4, 5, 6, 7, 8, 9, 10, 11, 12, 13, 14, 15, 16, 17], [0, 1, 2, 3, 4, 5, 6, 7, 8, 9, 10, 11, 12, 13, 14, 15, 16, 17, 24], [0, 1, 2, 3, 4, 5, 6, 7, 8, 9, 10, 11, 12, 13, 14, 15, 16, 17, 24, 25], [0, 1, 2, 3, 4, 5, 6, 7, 8, 9, 10, 11, 12, 13, 14, 15, 16, 17, 18, 19, 20, 21, 22, 23, 24, 25, 26], [0, 1, 2, 3, 4, 5, 6, 7, 8, 9, 10, 11, 12, 13, 14, 15, 16, 17, 18, 19, 20, 21, 22, 23, 24, 25, 26, 27], [0, 1, 2, 3, 4, 5, 6, 7, 8, 9, 10, 11, 12, 13, 14, 15, 16, 17, 18, 19, 20, 21, 22, 23, 24, 25, 26, 27, 28]] (by kernel_rfl) (by kernel_rfl)) ?_
  refine Zc (Zt rfl (Zy (Z7 (Zc (Zg (Zd (Iv (i : Nat)) ?_))))))
  refine Zm (vx := Iv (i : Nat)) (vy := Iv 1) rfl rfl (Iv ((i : Nat) + 1)) rfl rfl (Zal (by omega) (by omega) (by omega)) ?_
  refine Zb (Iv ((i : Nat) + 1)) (Za ?_)
  refine Zak ⟨((i + 1), true, (max m ((l.getD i default).1.commit))), ⟨by first | exact Zvq hA (by assumption) (by omega) | exact Zvo hA (by assumption) (by omega), by dsimp only; omega, Zjz hM (by omega)⟩, by show l.length - (i + 1) < l.length - i; omega, ?_⟩
  refine Zba.drop [] rfl (Zff rfl rfl) ?_ (Ze2 (Zk (Ze4 Zv Za5 (by decide)) (Zk (.inl rfl) (Zk (.inr (by kernel_rfl)) (Zk (.inl rfl) (Zk (.inl rfl) (Zk (.inl rfl) (Zk (.inl rfl) (Zk (.inl rfl) (Zk (.inl rfl) (Zk (.inl rfl) (Zk (.inl rfl) (Zk (.inl rfl) (Zk (.inl rfl) Zd2))))))))))))) (Ze3 Zv Za5))
  repeat (first | exact trivial | refine ⟨.inl rfl, ?_⟩ | refine ⟨.inr ⟨rfl, rfl⟩, ?_⟩ | refine ⟨.inr ⟨congrArg (Value.int .i64) (by first | omega | (dsimp only; omega)), rfl⟩, ?_⟩)
  refine Zcb (by exact congrArg (fun b => some (b == false)) h4) rfl (slv 0 0 l.length c) rfl ?_
  refine Zcb (by exact congrArg (fun b => some (b == false)) h4) rfl (Iv (i : Nat)) rfl ?_
  refine Zbb (b := 0) (o := 0) (j := i * 4) (m := l.length) (c := c) (sz := 4) (i := (i : Nat)) (k := .i64) (by exact congrArg (fun b => some (b == false)) h4) rfl rfl rfl rfl (by omega) (by omega) (by omega) ?_
  refine Zae (p := pt 0 (i * 4)) (v := mxV ([Iv ((l.getD i default).1.node), Iv ((l.getD i default).1.log), Iv ((l.getD i default).1.commit), slv (i + 13) 0 ((l.getD i default).1.items.length) ((l.getD i default).2)])) (by exact congrArg (fun b => some (b == false)) h4) rfl rfl (Zh9 Zv (l := l) (i := i) (K := 13) (m := 4) rfl rfl rfl (by omega) (by omega)) ?_
  refine Zae (p := pt 2 0) (v := mxV ([Iv ((Zi l).1.node), Iv ((Zi l).1.log), Iv ((Zi l).1.commit), slv 1 0 ((Zi l).1.items.length) ((Zi l).1.items.length)])) (by exact congrArg (fun b => some (b == false)) h4) rfl rfl (by kernel_rfl) ?_
  refine Z5 (e := [some ((i + 13), 0), some (1, 0)]) (nid := 0) (Zjn (G := G) ((l.getD i default).1) ((l.getD i default).1.items.length) ((l.getD i default).2) (rfl : _ = _) (by omega) (by omega) ((Zi l).1) ((Zi l).1.items.length) ((Zi l).1.items.length) (rfl : _ = _) (by omega) (by omega)) (vals := [mxV ([Iv ((l.getD i default).1.node), Iv ((l.getD i default).1.log), Iv ((l.getD i default).1.commit), slv (i + 13) 0 ((l.getD i default).1.items.length) ((l.getD i default).2)]), mxV ([Iv ((Zi l).1.node), Iv ((Zi l).1.log), Iv ((Zi l).1.commit), slv 1 0 ((Zi l).1.items.length) ((Zi l).1.items.length)])]) (v := .bool (Zdb ((l.getD i default).1) ((Zi l).1))) (H' := ([(Zv.B 13 l), rwB Zj ((Zi l).1.items), (mxW 4 ([Iv ((Zi l).1.node), Iv ((Zi l).1.log), Iv ((Zi l).1.commit), slv 1 0 ((Zi l).1.items.length) ((Zi l).1.items.length)])), hole, hole, hole, hole, hole, hole, hole, hole, hole, hole] ++ (l.map Zv.blk))) (by exact congrArg (fun b => some (b == false)) h4) rfl rfl rfl rfl rfl rfl ⟨⟨(Zbp (by kernel_rfl) ⟨⟨rfl, rfl⟩, ⟨rfl, rfl⟩, ⟨rfl, rfl⟩, ⟨rfl, rfl, rfl, by first | omega | exact Nat.le_refl _, by first | omega | exact Nat.le_refl _⟩, trivial⟩), (Zbp (by kernel_rfl) ⟨⟨rfl, rfl⟩, ⟨rfl, rfl⟩, ⟨rfl, rfl⟩, ⟨rfl, rfl, rfl, by first | omega | exact Nat.le_refl _, by first | omega | exact Nat.le_refl _⟩, trivial⟩), trivial⟩, ⟨(Zcg (Zco Zv (l := l) (i := i) rfl (by omega)) rfl (by show 0 + (Zj.row _).length ≤ (Zj.row _).length; omega) (Zif Zj _)), (Zbt rfl), trivial⟩, rfl, rfl, rfl⟩ rfl (by kernel_rfl) ?_
  refine Zre rfl rfl (.bool (Zdb ((l.getD i default).1) ((Zi l).1))) (by show some (if _ then _ else _) = _; rw [h4] <;> rfl) ?_
  refine Zb (.bool (Zdb ((l.getD i default).1) ((Zi l).1))) ?_
  refine Zd3 (Zct [[], [0], [0, 1], [0, 1], [0, 1, 2, 3], [0, 1, 2, 3, 4], [0, 1], [0, 1, 2, 3, 4, 5, 6], [0, 1, 2, 3, 4, 5, 6, 7], [0, 1, 2, 3, 4, 5, 6, 7, 8]] (by kernel_rfl) (by kernel_rfl)) ?_
  refine Zc (Zf (Zg (Zd (Iv m) (Zd (slv 0 0 l.length c) (Zd (Iv (i : Nat)) ?_)))))
  refine Zbb (b := 0) (o := 0) (j := i * 4) (m := l.length) (c := c) (sz := 4) (i := (i : Nat)) (k := .i64) rfl rfl rfl rfl rfl (by omega) (by omega) (by omega) ?_
  refine Zam (b := 0) (o := i * 4) (n := 2) (o' := i * 4 + 2) rfl rfl rfl rfl (by omega) ?_
  refine Zae (p := pt 0 (i * 4 + 2)) (v := Iv ((l.getD i default).1.commit)) rfl rfl rfl (Zer Zv (l := l) (i := i) (K := 13) (k := 2) (n := 4) rfl rfl rfl (by omega) (by omega) (by decide) (by kernel_rfl) rfl) ?_
  refine Z0n (vs := [Iv m, Iv ((l.getD i default).1.commit)]) (v := Iv (max m ((l.getD i default).1.commit))) rfl rfl rfl Zuq ?_
  refine Zb (Iv (max m ((l.getD i default).1.commit))) (Za (Zc (Zf ?_)))
  refine Zfw (by kernel_rfl) ?_
  refine Zd (slv 0 0 l.length c) (Zd (Iv (i : Nat)) ?_)
  refine Zbb (b := 0) (o := 0) (j := i * 4) (m := l.length) (c := c) (sz := 4) (i := (i : Nat)) (k := .i64) rfl rfl rfl rfl rfl (by omega) (by omega) (by omega) ?_
  refine Zam (b := 0) (o := i * 4) (n := 1) (o' := i * 4 + 1) rfl rfl rfl rfl (by omega) ?_
  refine Zae (p := pt 0 (i * 4 + 1)) (v := Iv ((l.getD i default).1.log)) rfl rfl rfl (Zer Zv (l := l) (i := i) (K := 13) (k := 1) (n := 4) rfl rfl rfl (by omega) (by omega) (by decide) (by kernel_rfl) rfl) ?_
  refine Zh (b := 2) (o := 0) (n := 1) (o' := 1) (Zo (p := pt 2 1) (v := Iv ((Zi l).1.log)) ?_)
  by_cases h8 : ((Zi l).1.log) < ((l.getD i default).1.log)
  refine Zm (vx := Iv ((l.getD i default).1.log)) (vy := Iv ((Zi l).1.log)) rfl rfl (.bool true) rfl rfl (Zfa (by omega)) ?_
  refine Zd (.bool true) (Ze (Ze (Ze (Ze (Ze (Ze (Ze (Ze (Ze (Ze (Ze (Ze (Ze (Ze (Ze (Ze (Ze (Ze (Ze (Ze (Zl (.bool true) ?_)))))))))))))))))))))
  refine Zcm (Zb2 [[], [], [0, 1], [0, 1, 2], [0, 1, 2, 3], [], [5], [0, 1, 2, 3, 4, 5, 6], [0, 1, 2, 3, 4, 5, 6, 7], [0, 1, 2, 3, 4, 5, 6, 7, 8], [0, 1, 2, 3, 4, 5, 6, 7, 8], [0, 1, 2, 3, 4, 5, 6, 7, 8, 9, 10], [0, 1, 2, 3, 4, 5, 6, 7, 8, 9, 10, 11], [0, 1, 2, 3, 4, 5, 6, 7, 8, 9, 10, 11, 12], [0, 1, 2, 3, 4, 5, 6, 7, 8], [0, 1, 2, 3, 4, 5, 6, 7, 8, 14], [0, 1, 2, 3, 4, 5, 6, 7, 8, 9, 10, 11, 12, 13, 14, 15], [0, 1, 2, 3, 4, 5, 6, 7, 8, 9, 10, 11, 12, 13, 14, 15, 16], [0, 1, 2, 3, 4, 5, 6, 7, 8, 9, 10, 11, 12, 13, 14, 15, 16, 17], [0, 1, 2, 3, 4, 5, 6, 7, 8, 9, 10, 11, 12, 13, 14, 15, 16, 17], [0, 1, 2, 3, 4, 5, 6, 7, 8, 9, 10, 11, 12, 13, 14, 15, 16, 17, 18, 19], [0, 1, 2, 3, 4, 5, 6, 7, 8, 9, 10, 11, 12, 13, 14, 15, 16, 17, 18, 19, 20], [0, 1, 2, 3, 4, 5, 6, 7, 8, 9, 10, 11, 12, 13, 14, 15, 16, 17, 18, 19, 20, 21], [0, 1, 2, 3, 4, 5, 6, 7, 8, 9, 10, 11, 12, 13, 14, 15, 16, 17, 18, 19, 20, 21, 22], [0, 1, 2, 3, 4, 5, 6, 7, 8, 9, 10, 11, 12, 13, 14, 15, 16, 17], [0, 1, 2, 3, 4, 5, 6, 7, 8, 9, 10, 11, 12, 13, 14, 15, 16, 17, 24], [0, 1, 2, 3, 4, 5, 6, 7, 8, 9, 10, 11, 12, 13, 14, 15, 16, 17, 24, 25], [0, 1, 2, 3, 4, 5, 6, 7, 8, 9, 10, 11, 12, 13, 14, 15, 16, 17, 18, 19, 20, 21, 22, 23, 24, 25, 26], [0, 1, 2, 3, 4, 5, 6, 7, 8, 9, 10, 11, 12, 13, 14, 15, 16, 17, 18, 19, 20, 21, 22, 23, 24, 25, 26, 27], [0, 1, 2, 3, 4, 5, 6, 7, 8, 9, 10, 11, 12, 13, 14, 15, 16, 17, 18, 19, 20, 21, 22, 23, 24, 25, 26, 27, 28]] (by kernel_rfl) (by kernel_rfl)) ?_
  refine Zc (Zz rfl (Zf (Zg (Zb (.bool false) (Za (Zc (Zr (Zao (Z3 (Zcr (Zao (Z3 ?_))))))))))))
  exfalso
  first | omega | exact Zg4 (i := i) (by assumption) (by omega) (by first | exact .inl (by omega) | exact .inr ⟨by omega, by omega⟩)
  refine Zm (vx := Iv ((l.getD i default).1.log)) (vy := Iv ((Zi l).1.log)) rfl rfl (.bool false) rfl rfl (Ze9 (by omega)) ?_
  refine Zd (.bool false) (Zd (slv 0 0 l.length c) (Zd (Iv (i : Nat)) ?_))
  refine Zbb (b := 0) (o := 0) (j := i * 4) (m := l.length) (c := c) (sz := 4) (i := (i : Nat)) (k := .i64) rfl rfl rfl rfl rfl (by omega) (by omega) (by omega) ?_
  refine Zam (b := 0) (o := i * 4) (n := 1) (o' := i * 4 + 1) rfl rfl rfl rfl (by omega) ?_
  refine Zae (p := pt 0 (i * 4 + 1)) (v := Iv ((l.getD i default).1.log)) rfl rfl rfl (Zer Zv (l := l) (i := i) (K := 13) (k := 1) (n := 4) rfl rfl rfl (by omega) (by omega) (by decide) (by kernel_rfl) rfl) ?_
  refine Zh (b := 2) (o := 0) (n := 1) (o' := 1) (Zo (p := pt 2 1) (v := Iv ((Zi l).1.log)) ?_)
  by_cases h9 : ((l.getD i default).1.log) = ((Zi l).1.log)
  refine Zm (vx := Iv ((l.getD i default).1.log)) (vy := Iv ((Zi l).1.log)) rfl rfl (.bool true) rfl rfl (Zc3 (by omega)) ?_
  refine Zd (.bool true) (Zd (slv 0 0 l.length c) (Zd (Iv (i : Nat)) ?_))
  refine Zbb (b := 0) (o := 0) (j := i * 4) (m := l.length) (c := c) (sz := 4) (i := (i : Nat)) (k := .i64) rfl rfl rfl rfl rfl (by omega) (by omega) (by omega) ?_
  refine Zam (b := 0) (o := i * 4) (n := 3) (o' := i * 4 + 3) rfl rfl rfl rfl (by omega) ?_
  refine Zae (p := pt 0 (i * 4 + 3)) (v := slv (i + 13) 0 ((l.getD i default).1.items.length) ((l.getD i default).2)) rfl rfl rfl (Zer Zv (l := l) (i := i) (K := 13) (k := 3) (n := 4) rfl rfl rfl (by omega) (by omega) (by decide) (by kernel_rfl) rfl) ?_
  refine Zav (p := slv (i + 13) 0 ((l.getD i default).1.items.length) ((l.getD i default).2)) (v := Iv ((((l.getD i default).1.items.length) : Nat) : Int)) (Zh (b := 2) (o := 0) (n := 3) (o' := 3) (Zo (p := pt 2 3) (v := slv 1 0 ((Zi l).1.items.length) ((Zi l).1.items.length)) (Zav (p := slv 1 0 ((Zi l).1.items.length) ((Zi l).1.items.length)) (v := Iv ((((Zi l).1.items.length) : Nat) : Int)) ?_)))
  by_cases h10 : ((((Zi l).1.items.length) : Nat) : Int) < ((((l.getD i default).1.items.length) : Nat) : Int)
  refine Zm (vx := Iv ((((l.getD i default).1.items.length) : Nat) : Int)) (vy := Iv ((((Zi l).1.items.length) : Nat) : Int)) rfl rfl (.bool true) rfl rfl (Zfa (by omega)) ?_
  refine Zl (.bool true) (Zl (.bool true) ?_)
  refine Zcm (Zb2 [[], [], [0, 1], [0, 1, 2], [0, 1, 2, 3], [], [5], [0, 1, 2, 3, 4, 5, 6], [0, 1, 2, 3, 4, 5, 6, 7], [0, 1, 2, 3, 4, 5, 6, 7, 8], [0, 1, 2, 3, 4, 5, 6, 7, 8], [0, 1, 2, 3, 4, 5, 6, 7, 8, 9, 10], [0, 1, 2, 3, 4, 5, 6, 7, 8, 9, 10, 11], [0, 1, 2, 3, 4, 5, 6, 7, 8, 9, 10, 11, 12], [0, 1, 2, 3, 4, 5, 6, 7, 8], [0, 1, 2, 3, 4, 5, 6, 7, 8, 14], [0, 1, 2, 3, 4, 5, 6, 7, 8, 9, 10, 11, 12, 13, 14, 15], [0, 1, 2, 3, 4, 5, 6, 7, 8, 9, 10, 11, 12, 13, 14, 15, 16], [0, 1, 2, 3, 4, 5, 6, 7, 8, 9, 10, 11, 12, 13, 14, 15, 16, 17], [0, 1, 2, 3, 4, 5, 6, 7, 8, 9, 10, 11, 12, 13, 14, 15, 16, 17], [0, 1, 2, 3, 4, 5, 6, 7, 8, 9, 10, 11, 12, 13, 14, 15, 16, 17, 18, 19], [0, 1, 2, 3, 4, 5, 6, 7, 8, 9, 10, 11, 12, 13, 14, 15, 16, 17, 18, 19, 20], [0, 1, 2, 3, 4, 5, 6, 7, 8, 9, 10, 11, 12, 13, 14, 15, 16, 17, 18, 19, 20, 21], [0, 1, 2, 3, 4, 5, 6, 7, 8, 9, 10, 11, 12, 13, 14, 15, 16, 17, 18, 19, 20, 21, 22], [0, 1, 2, 3, 4, 5, 6, 7, 8, 9, 10, 11, 12, 13, 14, 15, 16, 17], [0, 1, 2, 3, 4, 5, 6, 7, 8, 9, 10, 11, 12, 13, 14, 15, 16, 17, 24], [0, 1, 2, 3, 4, 5, 6, 7, 8, 9, 10, 11, 12, 13, 14, 15, 16, 17, 24, 25], [0, 1, 2, 3, 4, 5, 6, 7, 8, 9, 10, 11, 12, 13, 14, 15, 16, 17, 18, 19, 20, 21, 22, 23, 24, 25, 26], [0, 1, 2, 3, 4, 5, 6, 7, 8, 9, 10, 11, 12, 13, 14, 15, 16, 17, 18, 19, 20, 21, 22, 23, 24, 25, 26, 27], [0, 1, 2, 3, 4, 5, 6, 7, 8, 9, 10, 11, 12, 13, 14, 15, 16, 17, 18, 19, 20, 21, 22, 23, 24, 25, 26, 27, 28]] (by kernel_rfl) (by kernel_rfl)) ?_
  refine Zc (Zz rfl (Zf (Zg (Zb (.bool false) (Za (Zc (Zr (Zao (Z3 (Zcr (Zao (Z3 ?_))))))))))))
  exfalso
  first | omega | exact Zg4 (i := i) (by assumption) (by omega) (by first | exact .inl (by omega) | exact .inr ⟨by omega, by omega⟩)
  refine Zm (vx := Iv ((((l.getD i default).1.items.length) : Nat) : Int)) (vy := Iv ((((Zi l).1.items.length) : Nat) : Int)) rfl rfl (.bool false) rfl rfl (Ze9 (by omega)) ?_
  refine Zl (.bool false) (Zl (.bool false) ?_)
  refine Zcm (Zb2 [[], [], [0, 1], [0, 1, 2], [0, 1, 2, 3], [], [5], [0, 1, 2, 3, 4, 5, 6], [0, 1, 2, 3, 4, 5, 6, 7], [0, 1, 2, 3, 4, 5, 6, 7, 8], [0, 1, 2, 3, 4, 5, 6, 7, 8], [0, 1, 2, 3, 4, 5, 6, 7, 8, 9, 10], [0, 1, 2, 3, 4, 5, 6, 7, 8, 9, 10, 11], [0, 1, 2, 3, 4, 5, 6, 7, 8, 9, 10, 11, 12], [0, 1, 2, 3, 4, 5, 6, 7, 8], [0, 1, 2, 3, 4, 5, 6, 7, 8, 14], [0, 1, 2, 3, 4, 5, 6, 7, 8, 9, 10, 11, 12, 13, 14, 15], [0, 1, 2, 3, 4, 5, 6, 7, 8, 9, 10, 11, 12, 13, 14, 15, 16], [0, 1, 2, 3, 4, 5, 6, 7, 8, 9, 10, 11, 12, 13, 14, 15, 16, 17], [0, 1, 2, 3, 4, 5, 6, 7, 8, 9, 10, 11, 12, 13, 14, 15, 16, 17], [0, 1, 2, 3, 4, 5, 6, 7, 8, 9, 10, 11, 12, 13, 14, 15, 16, 17, 18, 19], [0, 1, 2, 3, 4, 5, 6, 7, 8, 9, 10, 11, 12, 13, 14, 15, 16, 17, 18, 19, 20], [0, 1, 2, 3, 4, 5, 6, 7, 8, 9, 10, 11, 12, 13, 14, 15, 16, 17, 18, 19, 20, 21], [0, 1, 2, 3, 4, 5, 6, 7, 8, 9, 10, 11, 12, 13, 14, 15, 16, 17, 18, 19, 20, 21, 22], [0, 1, 2, 3, 4, 5, 6, 7, 8, 9, 10, 11, 12, 13, 14, 15, 16, 17], [0, 1, 2, 3, 4, 5, 6, 7, 8, 9, 10, 11, 12, 13, 14, 15, 16, 17, 24], [0, 1, 2, 3, 4, 5, 6, 7, 8, 9, 10, 11, 12, 13, 14, 15, 16, 17, 24, 25], [0, 1, 2, 3, 4, 5, 6, 7, 8, 9, 10, 11, 12, 13, 14, 15, 16, 17, 18, 19, 20, 21, 22, 23, 24, 25, 26], [0, 1, 2, 3, 4, 5, 6, 7, 8, 9, 10, 11, 12, 13, 14, 15, 16, 17, 18, 19, 20, 21, 22, 23, 24, 25, 26, 27], [0, 1, 2, 3, 4, 5, 6, 7, 8, 9, 10, 11, 12, 13, 14, 15, 16, 17, 18, 19, 20, 21, 22, 23, 24, 25, 26, 27, 28]] (by kernel_rfl) (by kernel_rfl)) ?_
  refine Zc (Zt rfl (Zy (Z7 (Zc (Zg (Zd (Iv (i : Nat)) ?_))))))
  refine Zm (vx := Iv (i : Nat)) (vy := Iv 1) rfl rfl (Iv ((i : Nat) + 1)) rfl rfl (Zal (by omega) (by omega) (by omega)) ?_
  refine Zb (Iv ((i : Nat) + 1)) (Za ?_)
  refine Zak ⟨((i + 1), (Zdb ((l.getD i default).1) ((Zi l).1)), (max m ((l.getD i default).1.commit))), ⟨by first | exact Zvq hA (by assumption) (by omega) | exact Zvo hA (by assumption) (by omega), by dsimp only; omega, Zjz hM (by omega)⟩, by show l.length - (i + 1) < l.length - i; omega, ?_⟩
  refine Zba.drop [] rfl (Zff rfl rfl) ?_ (Ze2 (Zk (Ze4 Zv Za5 (by decide)) (Zk (.inl rfl) (Zk (.inr (by kernel_rfl)) (Zk (.inl rfl) (Zk (.inl rfl) (Zk (.inl rfl) (Zk (.inl rfl) (Zk (.inl rfl) (Zk (.inl rfl) (Zk (.inl rfl) (Zk (.inl rfl) (Zk (.inl rfl) (Zk (.inl rfl) Zd2))))))))))))) (Ze3 Zv Za5))
  repeat (first | exact trivial | refine ⟨.inl rfl, ?_⟩ | refine ⟨.inr ⟨rfl, rfl⟩, ?_⟩ | refine ⟨.inr ⟨congrArg (Value.int .i64) (by first | omega | (dsimp only; omega)), rfl⟩, ?_⟩)
  refine Zm (vx := Iv ((l.getD i default).1.log)) (vy := Iv ((Zi l).1.log)) rfl rfl (.bool false) rfl rfl (Zdo (by omega)) ?_
  refine Zd (.bool false) (Ze (Ze (Ze (Ze (Ze (Ze (Ze (Ze (Ze (Ze (Zl (.bool false) (Zl (.bool false) ?_))))))))))))
  refine Zcm (Zb2 [[], [], [0, 1], [0, 1, 2], [0, 1, 2, 3], [], [5], [0, 1, 2, 3, 4, 5, 6], [0, 1, 2, 3, 4, 5, 6, 7], [0, 1, 2, 3, 4, 5, 6, 7, 8], [0, 1, 2, 3, 4, 5, 6, 7, 8], [0, 1, 2, 3, 4, 5, 6, 7, 8, 9, 10], [0, 1, 2, 3, 4, 5, 6, 7, 8, 9, 10, 11], [0, 1, 2, 3, 4, 5, 6, 7, 8, 9, 10, 11, 12], [0, 1, 2, 3, 4, 5, 6, 7, 8], [0, 1, 2, 3, 4, 5, 6, 7, 8, 14], [0, 1, 2, 3, 4, 5, 6, 7, 8, 9, 10, 11, 12, 13, 14, 15], [0, 1, 2, 3, 4, 5, 6, 7, 8, 9, 10, 11, 12, 13, 14, 15, 16], [0, 1, 2, 3, 4, 5, 6, 7, 8, 9, 10, 11, 12, 13, 14, 15, 16, 17], [0, 1, 2, 3, 4, 5, 6, 7, 8, 9, 10, 11, 12, 13, 14, 15, 16, 17], [0, 1, 2, 3, 4, 5, 6, 7, 8, 9, 10, 11, 12, 13, 14, 15, 16, 17, 18, 19], [0, 1, 2, 3, 4, 5, 6, 7, 8, 9, 10, 11, 12, 13, 14, 15, 16, 17, 18, 19, 20], [0, 1, 2, 3, 4, 5, 6, 7, 8, 9, 10, 11, 12, 13, 14, 15, 16, 17, 18, 19, 20, 21], [0, 1, 2, 3, 4, 5, 6, 7, 8, 9, 10, 11, 12, 13, 14, 15, 16, 17, 18, 19, 20, 21, 22], [0, 1, 2, 3, 4, 5, 6, 7, 8, 9, 10, 11, 12, 13, 14, 15, 16, 17], [0, 1, 2, 3, 4, 5, 6, 7, 8, 9, 10, 11, 12, 13, 14, 15, 16, 17, 24], [0, 1, 2, 3, 4, 5, 6, 7, 8, 9, 10, 11, 12, 13, 14, 15, 16, 17, 24, 25], [0, 1, 2, 3, 4, 5, 6, 7, 8, 9, 10, 11, 12, 13, 14, 15, 16, 17, 18, 19, 20, 21, 22, 23, 24, 25, 26], [0, 1, 2, 3, 4, 5, 6, 7, 8, 9, 10, 11, 12, 13, 14, 15, 16, 17, 18, 19, 20, 21, 22, 23, 24, 25, 26, 27], [0, 1, 2, 3, 4, 5, 6, 7, 8, 9, 10, 11, 12, 13, 14, 15, 16, 17, 18, 19, 20, 21, 22, 23, 24, 25, 26, 27, 28]] (by kernel_rfl) (by kernel_rfl)) ?_
  refine Zc (Zt rfl (Zy (Z7 (Zc (Zg (Zd (Iv (i : Nat)) ?_))))))
  refine Zm (vx := Iv (i : Nat)) (vy := Iv 1) rfl rfl (Iv ((i : Nat) + 1)) rfl rfl (Zal (by omega) (by omega) (by omega)) ?_
  refine Zb (Iv ((i : Nat) + 1)) (Za ?_)
  refine Zak ⟨((i + 1), (Zdb ((l.getD i default).1) ((Zi l).1)), (max m ((l.getD i default).1.commit))), ⟨by first | exact Zvq hA (by assumption) (by omega) | exact Zvo hA (by assumption) (by omega), by dsimp only; omega, Zjz hM (by omega)⟩, by show l.length - (i + 1) < l.length - i; omega, ?_⟩
  refine Zba.drop [] rfl (Zff rfl rfl) ?_ (Ze2 (Zk (Ze4 Zv Za5 (by decide)) (Zk (.inl rfl) (Zk (.inr (by kernel_rfl)) (Zk (.inl rfl) (Zk (.inl rfl) (Zk (.inl rfl) (Zk (.inl rfl) (Zk (.inl rfl) (Zk (.inl rfl) (Zk (.inl rfl) (Zk (.inl rfl) (Zk (.inl rfl) (Zk (.inl rfl) Zd2))))))))))))) (Ze3 Zv Za5))
  repeat (first | exact trivial | refine ⟨.inl rfl, ?_⟩ | refine ⟨.inr ⟨rfl, rfl⟩, ?_⟩ | refine ⟨.inr ⟨congrArg (Value.int .i64) (by first | omega | (dsimp only; omega)), rfl⟩, ?_⟩)
  refine Zm (vx := Iv (i : Nat)) (vy := Iv (l.length : Nat)) rfl rfl (.bool false) rfl rfl (Zcv (by omega)) ?_
  refine Za (Zc (Zt rfl (Zbm (Zaw (Zay (Za0 rfl (Zc (Zf ?_))))))))
  have hin := Z1o (by assumption : (Zi l).2.2 = true) hA (by omega)
  have hms := Zz7 hM (by omega) (by omega)
  have hnn : (Zi l).2.1 = min (Zit (Zar l)) ((Zi l).1.items.length : Int) := by rw [hcf.2.2, hcf.2.1]
  refine Zg ?_
  refine Zs (Zn5 (G := G) kk hG hG1) (vals := []) (res' := .bool true) rfl rfl rfl rfl rfl rfl ?_
  refine Zd (.bool true) (Zd (.bool inb) (Zl (.bool inb) (Zd (.bool inb) ?_)))
  refine Zcb (by exact congrArg (fun b => some (b == true)) hin) rfl (slv 0 0 l.length c) rfl ?_
  refine Zid (p := slv 0 0 l.length c) (v := Iv (l.length : Nat)) (by exact congrArg (fun b => some (b == true)) hin) rfl rfl rfl ?_
  refine Zm (vx := Iv (l.length : Nat)) (vy := Iv 2) (by exact congrArg (fun b => some (b == true)) hin) rfl (.bool true) rfl rfl (Zm0 (by omega)) ?_
  refine Zre rfl rfl (.bool true) (by show some (if _ then _ else _) = _; rw [hin] <;> rfl) ?_
  refine Zd (.bool true) (Zd (Iv ((Zi l).2.1)) (Zh (b := 2) (o := 0) (n := 3) (o' := 3) (Zo (p := pt 2 3) (v := slv 1 0 ((Zi l).1.items.length) ((Zi l).1.items.length)) (Zav (p := slv 1 0 ((Zi l).1.items.length) ((Zi l).1.items.length)) (v := Iv ((((Zi l).1.items.length) : Nat) : Int)) ?_))))
  refine Zm (vx := Iv ((Zi l).2.1)) (vy := Iv ((((Zi l).1.items.length) : Nat) : Int)) rfl rfl (.bool true) rfl rfl (Zka (by omega)) ?_
  refine Zl (.bool true) (Zd (.bool true) (Zd (Iv ((Zi l).2.1)) (Zd (Iv m) ?_)))
  by_cases h11 : ((Zi l).2.1) = m
  refine Zm (vx := Iv ((Zi l).2.1)) (vy := Iv m) rfl rfl (.bool true) rfl rfl (Zc3 (by omega)) ?_
  refine Zd (.bool true) (Ze (Ze (Ze (Ze (Ze (Zl (.bool true) (Zl (.bool true) (Zb (.bool true) (Za (Zc (Zr ?_)))))))))))
  exact Zgk (v := .bool true) rfl ⟨rfl, fun i hi => Zco Zv rfl hi, [], rfl, by decide, rfl, rfl⟩
  refine Zm (vx := Iv ((Zi l).2.1)) (vy := Iv m) rfl rfl (.bool false) rfl rfl (Zdo (by omega)) ?_
  refine Zd (.bool false) (Zd (Iv ((Zi l).2.1)) (Zh (b := 2) (o := 0) (n := 3) (o' := 3) (Zo (p := pt 2 3) (v := slv 1 0 ((Zi l).1.items.length) ((Zi l).1.items.length)) (Zav (p := slv 1 0 ((Zi l).1.items.length) ((Zi l).1.items.length)) (v := Iv ((((Zi l).1.items.length) : Nat) : Int)) ?_))))
  by_cases h12 : ((Zi l).2.1) = ((((Zi l).1.items.length) : Nat) : Int)
  refine Zm (vx := Iv ((Zi l).2.1)) (vy := Iv ((((Zi l).1.items.length) : Nat) : Int)) rfl rfl (.bool true) rfl rfl (Zc3 (by omega)) ?_
  refine Zl (.bool true) (Zl (.bool true) (Zb (.bool true) (Za (Zc (Zr ?_)))))
  exact Zgk (v := .bool true) rfl ⟨rfl, fun i hi => Zco Zv rfl hi, [], rfl, by decide, rfl, rfl⟩
  refine Zm (vx := Iv ((Zi l).2.1)) (vy := Iv ((((Zi l).1.items.length) : Nat) : Int)) rfl rfl (.bool false) rfl rfl (Zdo (by omega)) ?_
  refine Zl (.bool false) (Zl (.bool false) (Zb (.bool false) (Za (Zc (Zr ?_)))))
  exfalso
  first | omega | exact Zg4 (i := i) (by assumption) (by omega) (by first | exact .inl (by omega) | exact .inr ⟨by omega, by omega⟩)
  refine Zgj (vx := .bool ((Zi l).2.2)) rfl rfl (.bool true) rfl (Eq.trans Zdd (congrArg (fun b => some (Value.bool !b)) h2)) ?_
  refine Za (Zc (Zz rfl (Zf ?_)))
  have hz := Zr6 (by assumption : (Zi l).2.2 = false)
  refine Zg ?_
  refine Zs (Zn5 (G := G) kk hG hG1) (vals := []) (res' := .bool true) rfl rfl rfl rfl rfl rfl ?_
  refine Zd (.bool true) (Zd (Iv ((Zi l).2.1)) ?_)
  refine Zm (vx := Iv ((Zi l).2.1)) (vy := Iv 0) rfl rfl (.bool true) rfl rfl (Zc3 (by omega)) ?_
  refine Zl (.bool true) (Zd (.bool true) (Zo (p := pt 2 0) (v := mxV ([Iv ((Zi l).1.node), Iv ((Zi l).1.log), Iv ((Zi l).1.commit), slv 1 0 ((Zi l).1.items.length) ((Zi l).1.items.length)])) ?_))
  refine Zc5 (vs := []) (v := mxV ([Iv 0, Iv 0, Iv 0, .slice none 0 0])) rfl rfl rfl (by kernel_rfl) ?_
  refine Z5 (e := [some (1, 0), none]) (nid := 0) (Zjn (G := G) ((Zi l).1) ((Zi l).1.items.length) ((Zi l).1.items.length) (rfl : _ = _) (by omega) (by omega) (⟨0, 0, 0, []⟩ : TailT) 0 0 rfl (by omega) (by omega)) (vals := [mxV ([Iv ((Zi l).1.node), Iv ((Zi l).1.log), Iv ((Zi l).1.commit), slv 1 0 ((Zi l).1.items.length) ((Zi l).1.items.length)]), mxV ([Iv 0, Iv 0, Iv 0, .slice none 0 0])]) (v := .bool (Zdb ((Zi l).1) (⟨0, 0, 0, []⟩ : TailT))) (H' := ([(Zv.B 13 l), rwB Zj ((Zi l).1.items), (mxW 4 ([Iv ((Zi l).1.node), Iv ((Zi l).1.log), Iv ((Zi l).1.commit), slv 1 0 ((Zi l).1.items.length) ((Zi l).1.items.length)])), hole, hole, hole, hole, hole, hole, hole, hole, hole, hole] ++ (l.map Zv.blk))) rfl rfl rfl rfl rfl rfl rfl ⟨⟨(Zbp (by kernel_rfl) ⟨⟨rfl, rfl⟩, ⟨rfl, rfl⟩, ⟨rfl, rfl⟩, ⟨rfl, rfl, rfl, by first | omega | exact Nat.le_refl _, by first | omega | exact Nat.le_refl _⟩, trivial⟩), (Zbp (by kernel_rfl) ⟨⟨rfl, rfl⟩, ⟨rfl, rfl⟩, ⟨rfl, rfl⟩, ⟨rfl, rfl, rfl, rfl⟩, trivial⟩), trivial⟩, ⟨(Zbt rfl), ⟨rfl, rfl, by first | exact Nat.succ_pos _ | (show 0 < _; decide)⟩, trivial⟩, rfl, rfl, rfl⟩ rfl (by kernel_rfl) ?_
  refine Zl (.bool (Zdb ((Zi l).1) (⟨0, 0, 0, []⟩ : TailT))) (Zb (.bool (Zdb ((Zi l).1) (⟨0, 0, 0, []⟩ : TailT))) (Za (Zc (Zr (Z3 ?_)))))
  exact Zgk (v := .bool (Zdb ((Zi l).1) (⟨0, 0, 0, []⟩ : TailT))) rfl ⟨rfl, fun i hi => Zco Zv rfl hi, [], rfl, by decide, rfl, (congrArg Value.bool hz.2)⟩
end Go.Flat
