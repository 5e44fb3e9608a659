/- Walks. -/
import Derived.Test.YtlnggiomppkjmaaDoorA8
set_option linter.unusedVariables false
set_option linter.unusedSimpArgs false
set_option maxRecDepth 20000
namespace Go.Flat
open Go.Proofs
variable {G : Glob}
def Zhl (q : Nat) (x : Item) (t : TailT) : Bool := decide (q < t.items.length) && Zc2 (t.items.getD q default) x
def Zjy (log : Int) (q : Nat) (x : Item) (t : TailT) : Prop := log ≤ t.log → Zhl q x t = true ∨ (t.log = log ∧ t.items.length ≤ q)
def Zh0 (l : List (TailT × Nat)) (log : Int) (q : Nat) (x : Item) (i : Nat) : Bool := (l.take i).any fun y => decide (log ≤ y.1.log) && Zhl q x y.1
section
variable {l : List (TailT × Nat)} {log : Int} {q : Nat} {x : Item} {i : Nat}
theorem Zqj (hi : i < l.length) : Zh0 l log q x (i + 1) = (Zh0 l log q x i || (decide (log ≤ (l.getD i default).1.log) && Zhl q x (l.getD i default).1)) := by
 unfold Zh0
 rw [List.take_succ_eq_append_getElem hi, List.any_append, List.getD_eq_getElem?_getD, List.getElem?_eq_getElem hi]; simp
theorem Zj9 {t : TailT} (h1 : q < t.items.length) (h2 : Zc2 (t.items.getD q default) x = true) : Zhl q x t = true := by
 unfold Zhl; rw [decide_eq_true h1, h2]; rfl
theorem Zhm {t : TailT} (h1 : q < t.items.length) : Zhl q x t = Zc2 (t.items.getD q default) x := by
 unfold Zhl; rw [decide_eq_true h1]; rfl
theorem Zof {t : TailT} (h1 : ¬ q < t.items.length) : Zhl q x t = false := by
 unfold Zhl; rw [decide_eq_false h1]; rfl
theorem Zle {b : Bool} (hi : i < l.length) (h : (∀ j, j < i → Zjy log q x (l.getD j default).1) ∧ b = Zh0 l log q x i) (h1 : (l.getD i default).1.log < log) : (∀ j, j < i + 1 → Zjy log q x (l.getD j default).1) ∧ b = Zh0 l log q x (i + 1) := by
 refine ⟨fun j hj => ?_, ?_⟩
 ·rcases Nat.lt_or_ge j i with h2 | h2
  ·exact h.1 j h2
  ·obtain rfl : j = i := (by omega)
   intro h3; omega
 ·rw [Zqj hi, ← h.2, decide_eq_false (by omega)]; simp
theorem Zss {b c : Bool} (hi : i < l.length) (h : (∀ j, j < i → Zjy log q x (l.getD j default).1) ∧ b = Zh0 l log q x i) (h1 : log ≤ (l.getD i default).1.log) (h2 : Zhl q x (l.getD i default).1 = true ∨ ((l.getD i default).1.log = log ∧ (l.getD i default).1.items.length ≤ q)) (hc : c = (b || Zhl q x (l.getD i default).1)) : (∀ j, j < i + 1 → Zjy log q x (l.getD j default).1) ∧ c = Zh0 l log q x (i + 1) := by
 refine ⟨fun j hj => ?_, ?_⟩
 ·rcases Nat.lt_or_ge j i with h3 | h3
  ·exact h.1 j h3
  ·obtain rfl : j = i := (by omega)
   intro _; exact h2
 ·rw [Zqj hi, ← h.2, decide_eq_true h1, hc]; simp
theorem Zp8 {b : Bool} (hi : l.length ≤ i) (h : (∀ j, j < i → Zjy log q x (l.getD j default).1) ∧ b = Zh0 l log q x i) (hb : b = true) (hok : (Zq l).2.2 = true) : Zhl q x (Zq l).1 = true := by
 obtain ⟨h1, h2, _⟩ := Zqy hok
 have h3 := Zny (Zmv h1)
 have h4 := h.2.symm.trans hb
 unfold Zh0 at h4
 rw [List.take_of_length_le hi, List.any_eq_true] at h4
 obtain ⟨y, hy, hy2⟩ := h4
 obtain ⟨j, hj, rfl⟩ := List.getElem_of_mem hy
 rw [Bool.and_eq_true] at hy2
 have e1 : l.getD j default = l[j] := by rw [List.getD_eq_getElem?_getD, List.getElem?_eq_getElem hj]; rfl
 have g1 := of_decide_eq_true hy2.1
 have g2 := hy2.2
 rw [← e1] at g1 g2
 have g3 : q < (l.getD j default).1.items.length := by
  unfold Zhl at g2
  rw [Bool.and_eq_true] at g2
  exact of_decide_eq_true g2.1
 have g4 := Zl8 l (l.length - 1) j (by omega)
 rw [h2]
 show Zhl q x (l.getD (Zw l) default).1 = true
 have g5 := h.1 (Zw l) (by omega)
 have e2 : Zej l (l.length - 1) = Zw l := rfl
 rw [e2] at g4
 rcases g5 (by omega) with g6 | g6
 ·exact g6
 ·exfalso; omega
end
theorem Zpe (kk : Nat → BitVec 32) (hG : G 0 = some (Zah w32 64 kk)) (hG1 : G 2 = some (Zah u8N 64 dbF)) (l : List (TailT × Nat)) (c : Nat) (hc : l.length ≤ c) (hb : c ≤ 9223372036854775807) (hS : ∀ i, i < l.length → okT (l.getD i default)) (log ps : Int) (z : Item) (hps : ps ≤ 9223372036854775807) : Z6 Tryd.prog G 4 [slv 0 0 l.length c, Iv log, Iv ps, Zbd z] (Zv.S 0 l) (.bool true) ((Zv.S 0 l) ++ []) := by
  refine Z6.deep (fn := Tryd.f4) (nt := 101) (N := []) 12 rfl rfl rfl rfl Zaz ⟨⟨rfl, rfl, rfl, by first | omega | exact Nat.le_refl _, by first | omega | exact Nat.le_refl _⟩, (by first | rfl | exact ⟨by kernel_rfl, by kernel_rfl⟩), (by first | rfl | exact ⟨by kernel_rfl, by kernel_rfl⟩), (by first | rfl | exact ⟨by kernel_rfl, by kernel_rfl⟩), trivial⟩ rfl rfl ?_
  refine Zgz (H' := ([(Zv.B 13 l), hole, hole, hole, hole, hole, hole, hole, hole, hole, hole, hole, hole] ++ (l.map Zv.blk))) rfl ?_
  refine Zf (Zg ?_)
  refine Z4x (v := Zbd z) (b := (bxM 110 (Zbi z))) (nid := 1) (H' := ([(Zv.B 13 l), (bxM 110 (Zbi z)), hole, hole, hole, hole, hole, hole, hole, hole, hole, hole, hole] ++ (l.map Zv.blk))) rfl rfl rfl (by kernel_rfl) (by kernel_rfl) ?_
  refine Zb (.bool false) (Za (Zc (Zf (Zf (Zg (Zd (slv 0 0 l.length c) ?_))))))
  refine Znq (N := []) (b0 := 0) (kk := 13) (a := 0) (q := l.length) (L := l) (nid := 0) (Z09 (G := G) l c hc hb hS) (vals := [slv 0 0 l.length c]) (v := .bool (Zfq l)) (H' := ([(Zv.B 13 l), (bxM 110 (Zbi z)), hole, hole, hole, hole, hole, hole, hole, hole, hole, hole, hole] ++ (l.map Zv.blk))) rfl rfl rfl rfl rfl rfl Zaz (by simp) (by omega) rfl (fun i hi => Zk2 Zv rfl hi) ⟨⟨rfl, rfl, rfl, by omega, by omega⟩, trivial⟩ rfl rfl rfl (by kernel_rfl) ?_
  refine Zd (.bool (Zfq l)) ?_
  rcases Bool.eq_false_or_eq_true (Zfq l) with h1 | h1
  refine Zoy (by exact congrArg (fun b => some (b == false)) h1) rfl ?_
  refine Zoy (by exact congrArg (fun b => some (b == false)) h1) rfl ?_
  refine Zjl rfl rfl (.bool true) (by show some (if _ then _ else _) = _; rw [h1] <;> rfl) ?_
  refine Za (Zc (Zy rfl (Zf (Zg (Zb (.bool true) (Za (Zc (Zr (Z2 ?_)))))))))
  exact Zey (v := .bool true) rfl ⟨rfl, fun i hi => Zbw Zv rfl hi, [], rfl, by decide, rfl, rfl⟩
  refine Zcg (by exact congrArg (fun b => some (b == false)) h1) rfl (Iv ps) rfl ?_
  by_cases h2 : ps < 0
  refine Zl (vx := Iv ps) (vy := Iv 0) (by exact congrArg (fun b => some (b == false)) h1) rfl (.bool true) rfl rfl (Zck (by omega)) ?_
  refine Zjl rfl rfl (.bool true) (by show some (if _ then _ else _) = _; rw [h1] <;> rfl) ?_
  refine Za (Zc (Zy rfl (Zf (Zg (Zb (.bool true) (Za (Zc (Zr (Z2 ?_)))))))))
  exact Zey (v := .bool true) rfl ⟨rfl, fun i hi => Zbw Zv rfl hi, [], rfl, by decide, rfl, rfl⟩
  refine Zl (vx := Iv ps) (vy := Iv 0) (by exact congrArg (fun b => some (b == false)) h1) rfl (.bool false) rfl rfl (Zcd (by omega)) ?_
  refine Zjl rfl rfl (.bool false) (by show some (if _ then _ else _) = _; rw [h1] <;> rfl) ?_
  refine Za (Zc (Zu rfl (Zz (Zc (Zf ?_)))))
  obtain ⟨q, rfl⟩ : ∃ x0 : Nat, ps = (x0 : Int) := ⟨ps.toNat, by omega⟩
  have hbg := Zyr (by assumption : Zfq l = false)
  have hB := hbg.2
  have hl20 := hbg.1
  have hcl := Zt9 (l := l) hB
  refine Zg (Zb (.bool false) (Za (Zc (Zf (Zf (Zg (Zb (Iv 0) (Za (Zc (Z8 ?_))))))))))
  refine Zbt (fun x : Nat × Bool => match x with | (i, sm) => [slv 0 0 l.length c, Iv log, Iv (q : Nat), Zbd z, dead, dead, dead, pt 1 0, dead, .bool sm, Iv (i : Nat), dead, dead, dead, dead, dead, slv 0 0 l.length c, .bool (Zfq l), .bool (Zfq l), Iv (q : Nat), .bool false, .bool false]) (fun x : Nat × Bool => match x with | (i, sm) => ([(Zv.B 13 l), (bxM 110 (Zbi z)), hole, hole, hole, hole, hole, hole, hole, hole, hole, hole, hole] ++ (l.map Zv.blk))) (fun x : Nat × Bool => match x with | (i, sm) => ((∀ j, j < i → Zjy log q z (l.getD j default).1) ∧ sm = Zh0 l log q z i) ∧ i ≤ l.length) (fun x : Nat × Bool => match x with | (i, sm) => l.length - i) (0, false) ⟨⟨fun j hj => absurd hj (Nat.not_lt_zero _), rfl⟩, by omega⟩ ?_ ?_
  · refine Za7.drop [] rfl (fun b => rfl) ?_ (fun x _ => Zln x)
    repeat (first | exact trivial | refine ⟨.inl rfl, ?_⟩ | refine ⟨.inr ⟨rfl, rfl⟩, ?_⟩ | refine ⟨.inr ⟨congrArg (Value.int .i64) (by first | omega | (dsimp only; omega)), rfl⟩, ?_⟩)
  rintro ⟨i, sm⟩ ⟨hA, hi⟩
  dsimp only at *
  refine Zf (Zf (Zg (Zd (Iv (i : Nat)) (Zd (slv 0 0 l.length c) (Zaw (p := slv 0 0 l.length c) (v := Iv (l.length : Nat)) ?_)))))
  by_cases h3 : (i : Nat) < (l.length : Nat)
  refine Zl (vx := Iv (i : Nat)) (vy := Iv (l.length : Nat)) rfl rfl (.bool true) rfl rfl (Zck (by omega)) ?_
  refine Za (Zc (Zy rfl (Zz (Zc (Zf (Z8 (Zf ?_)))))))
  have hok := hS i (by omega)
  obtain ⟨⟨ho1, ho2⟩, ⟨ho3, ho4⟩, ⟨ho5, ho6⟩, ho7, ho8⟩ := hok
  have hbi := hB i (by omega)
  refine Zg (Zd (slv 0 0 l.length c) (Zd (Iv (i : Nat)) ?_))
  refine Zbo (b := 0) (o := 0) (j := i * 4) (m := l.length) (c := c) (sz := 4) (i := (i : Nat)) (k := .i64) rfl rfl rfl rfl rfl (by omega) (by omega) (by omega) ?_
  refine Zal (p := pt 0 (i * 4)) (v := mxV ([Iv ((l.getD i default).1.node), Iv ((l.getD i default).1.log), Iv ((l.getD i default).1.commit), slv (i + 13) 0 ((l.getD i default).1.items.length) ((l.getD i default).2)])) rfl rfl rfl (Zh8 Zv (l := l) (i := i) (K := 13) (m := 4) rfl rfl rfl (by omega) (by omega)) ?_
  refine Zfh (b := (mxW 4 ([Iv 0, Iv 0, Iv 0, .slice none 0 0]))) (nid := 2) (H' := ([(Zv.B 13 l), (bxM 110 (Zbi z)), (mxW 4 ([Iv 0, Iv 0, Iv 0, .slice none 0 0])), hole, hole, hole, hole, hole, hole, hole, hole, hole, hole] ++ (l.map Zv.blk))) rfl rfl (by kernel_rfl) (by kernel_rfl) ?_
  refine Zab (p := pt 2 0) (v := mxV ([Iv ((l.getD i default).1.node), Iv ((l.getD i default).1.log), Iv ((l.getD i default).1.commit), slv (i + 13) 0 ((l.getD i default).1.items.length) ((l.getD i default).2)])) (b := 2) (blk := (mxW 4 ([Iv ((l.getD i default).1.node), Iv ((l.getD i default).1.log), Iv ((l.getD i default).1.commit), slv (i + 13) 0 ((l.getD i default).1.items.length) ((l.getD i default).2)]))) (H' := ([(Zv.B 13 l), (bxM 110 (Zbi z)), (mxW 4 ([Iv ((l.getD i default).1.node), Iv ((l.getD i default).1.log), Iv ((l.getD i default).1.commit), slv (i + 13) 0 ((l.getD i default).1.items.length) ((l.getD i default).2)])), hole, hole, hole, hole, hole, hole, hole, hole, hole, hole] ++ (l.map Zv.blk))) (Za (Zc (Zf (Zf (Zg (Zh (b := 2) (o := 0) (n := 1) (o' := 1) (Zn (p := pt 2 1) (v := Iv ((l.getD i default).1.log)) (Zd (Iv log) ?_))))))))
  by_cases h4 : ((l.getD i default).1.log) < log
  refine Zl (vx := Iv ((l.getD i default).1.log)) (vy := Iv log) rfl rfl (.bool true) rfl rfl (Zck (by omega)) ?_
  refine Za (Zc (Zy rfl (Zbm (Zaq (Zav rfl (Zc (Zg (Zd (Iv (i : Nat)) ?_))))))))
  refine Zl (vx := Iv (i : Nat)) (vy := Iv 1) rfl rfl (Iv ((i : Nat) + 1)) rfl rfl (Zak (by omega) (by omega) (by omega)) ?_
  refine Zb (Iv ((i : Nat) + 1)) (Za ?_)
  refine Zag ⟨((i + 1), sm), ⟨by first | exact Zle (by omega) hA (by omega) | exact Zss (by omega) hA (by omega) (by first | exact .inl (Zj9 (by omega) (by assumption)) | exact .inr ⟨by omega, by omega⟩) (by first | (rw [‹sm = true›]; rfl) | (rw [‹sm = false›, Zj9 (by omega) (by assumption)]; rfl) | (rw [‹sm = false›, Zof (by omega)]; rfl) | (rw [‹sm = false›, Zhm (by omega), Bool.false_or]) | (rw [‹sm = false›, Zhm (by omega), ‹Zc2 _ _ = false›]; rfl)), by dsimp only; omega⟩, by show l.length - (i + 1) < l.length - i; omega, ?_⟩
  refine Za7.drop [2] rfl (Ze4 rfl rfl) ?_ (Zet (Zj (Zev Zv Zaz (by decide)) (Zj (.inl rfl) (Zj (.inl rfl) (Zj (.inl rfl) (Zj (.inl rfl) (Zj (.inl rfl) (Zj (.inl rfl) (Zj (.inl rfl) (Zj (.inl rfl) (Zj (.inl rfl) (Zj (.inl rfl) (Zj (.inl rfl) (Zj (.inl rfl) Zds))))))))))))) (Zeu Zv Zaz))
  repeat (first | exact trivial | refine ⟨.inl rfl, ?_⟩ | refine ⟨.inr ⟨rfl, rfl⟩, ?_⟩ | refine ⟨.inr ⟨congrArg (Value.int .i64) (by first | omega | (dsimp only; omega)), rfl⟩, ?_⟩)
  refine Zl (vx := Iv ((l.getD i default).1.log)) (vy := Iv log) rfl rfl (.bool false) rfl rfl (Zcd (by omega)) ?_
  refine Za (Zc (Zu rfl (Zz (Zc (Zf ?_)))))
  refine Zgh (by kernel_rfl) ?_
  refine Zd (Iv (q : Nat)) (Zh (b := 2) (o := 0) (n := 3) (o' := 3) (Zn (p := pt 2 3) (v := slv (i + 13) 0 ((l.getD i default).1.items.length) ((l.getD i default).2)) (Zaw (p := slv (i + 13) 0 ((l.getD i default).1.items.length) ((l.getD i default).2)) (v := Iv ((((l.getD i default).1.items.length) : Nat) : Int)) ?_)))
  by_cases h5 : (q : Nat) < ((((l.getD i default).1.items.length) : Nat) : Int)
  refine Zl (vx := Iv (q : Nat)) (vy := Iv ((((l.getD i default).1.items.length) : Nat) : Int)) rfl rfl (.bool true) rfl rfl (Zck (by omega)) ?_
  refine Zd (.bool true) (Zh (b := 2) (o := 0) (n := 3) (o' := 3) (Zn (p := pt 2 3) (v := slv (i + 13) 0 ((l.getD i default).1.items.length) ((l.getD i default).2)) (Zd (Iv (q : Nat)) ?_)))
  refine Zbo (b := (i + 13)) (o := 0) (j := q * 110) (m := ((l.getD i default).1.items.length)) (c := ((l.getD i default).2)) (sz := 110) (i := (q : Nat)) (k := .i64) rfl rfl rfl rfl rfl (by omega) (by omega) (by omega) ?_
  refine Zal (p := pt (i + 13) (q * 110)) (v := Zbd ((l.getD i default).1.items.getD q default)) rfl rfl rfl (Zf6 (n := 0) (m := 110) Zi rfl rfl (Zbw Zv (l := l) (i := i) rfl (by omega)) rfl (by omega) (by omega)) ?_
  refine Zn (p := pt 1 0) (v := Zbd z) ?_
  rcases Bool.eq_false_or_eq_true (Zc2 ((l.getD i default).1.items.getD q default) z) with h6 | h6
  refine Zl (vx := Zbd ((l.getD i default).1.items.getD q default)) (vy := Zbd z) rfl rfl (.bool true) rfl rfl (Eq.trans (Zk5 ((l.getD i default).1.items.getD q default) z) (by rw [h6] <;> rfl)) ?_
  refine Zk (.bool true) (Zb (.bool true) ?_)
  refine Zdm (Zc4 [[], [], [1], [1, 2], [0, 1, 2, 3], [0, 1, 2, 3, 4], [0, 1, 2, 3, 4, 5], [0, 1, 2, 3, 4, 5, 6], [0, 1, 2, 3, 4, 5], [0, 1, 2, 3, 4, 5, 6, 7, 8], [0, 1, 2, 3, 4, 5, 6, 7, 8, 9], [0, 1, 2, 3, 4, 5], [0, 1, 2, 3, 4, 5, 6, 7, 8, 9, 10, 11], [0, 1, 2, 3, 4, 5, 6, 7, 8, 9, 10, 11, 12], [0, 1, 2, 3, 4, 5, 6, 7, 8, 9, 10, 11, 12, 13]] (by kernel_rfl) (by kernel_rfl)) ?_
  refine Zc (Zf (Zf (Zg (Zd (.bool true) ?_))))
  refine Zfb (vx := .bool true) rfl rfl (.bool false) rfl Zcq ?_
  refine Zd (.bool false) (Ze (Ze (Ze (Ze (Ze (Ze (Ze (Ze (Ze (Ze (Ze (Zk (.bool false) (Za (Zc (Zu rfl (Zz (Zc (Zg (Zd (.bool sm) (Zd (.bool sm) ?_))))))))))))))))))))
  rcases Bool.eq_false_or_eq_true sm with h7 | h7
  refine Zoy (by exact congrArg (fun b => some (b == false)) h7) rfl ?_
  refine Zjl rfl rfl (.bool true) (by show some (if _ then _ else _) = _; rw [h7] <;> rfl) ?_
  refine Zb (.bool true) (Za (Z7 (Zc (Zg (Zd (Iv (i : Nat)) ?_)))))
  refine Zl (vx := Iv (i : Nat)) (vy := Iv 1) rfl rfl (Iv ((i : Nat) + 1)) rfl rfl (Zak (by omega) (by omega) (by omega)) ?_
  refine Zb (Iv ((i : Nat) + 1)) (Za ?_)
  refine Zag ⟨((i + 1), true), ⟨by first | exact Zle (by omega) hA (by omega) | exact Zss (by omega) hA (by omega) (by first | exact .inl (Zj9 (by omega) (by assumption)) | exact .inr ⟨by omega, by omega⟩) (by first | (rw [‹sm = true›]; rfl) | (rw [‹sm = false›, Zj9 (by omega) (by assumption)]; rfl) | (rw [‹sm = false›, Zof (by omega)]; rfl) | (rw [‹sm = false›, Zhm (by omega), Bool.false_or]) | (rw [‹sm = false›, Zhm (by omega), ‹Zc2 _ _ = false›]; rfl)), by dsimp only; omega⟩, by show l.length - (i + 1) < l.length - i; omega, ?_⟩
  refine Za7.drop [2] rfl (Ze4 rfl rfl) ?_ (Zet (Zj (Zev Zv Zaz (by decide)) (Zj (.inl rfl) (Zj (.inl rfl) (Zj (.inl rfl) (Zj (.inl rfl) (Zj (.inl rfl) (Zj (.inl rfl) (Zj (.inl rfl) (Zj (.inl rfl) (Zj (.inl rfl) (Zj (.inl rfl) (Zj (.inl rfl) (Zj (.inl rfl) Zds))))))))))))) (Zeu Zv Zaz))
  repeat (first | exact trivial | refine ⟨.inl rfl, ?_⟩ | refine ⟨.inr ⟨rfl, rfl⟩, ?_⟩ | refine ⟨.inr ⟨congrArg (Value.int .i64) (by first | omega | (dsimp only; omega)), rfl⟩, ?_⟩)
  refine Zcg (by exact congrArg (fun b => some (b == false)) h7) rfl (.bool true) rfl ?_
  refine Zjl rfl rfl (.bool true) (by show some (if _ then _ else _) = _; rw [h7] <;> rfl) ?_
  refine Zb (.bool true) (Za (Z7 (Zc (Zg (Zd (Iv (i : Nat)) ?_)))))
  refine Zl (vx := Iv (i : Nat)) (vy := Iv 1) rfl rfl (Iv ((i : Nat) + 1)) rfl rfl (Zak (by omega) (by omega) (by omega)) ?_
  refine Zb (Iv ((i : Nat) + 1)) (Za ?_)
  refine Zag ⟨((i + 1), true), ⟨by first | exact Zle (by omega) hA (by omega) | exact Zss (by omega) hA (by omega) (by first | exact .inl (Zj9 (by omega) (by assumption)) | exact .inr ⟨by omega, by omega⟩) (by first | (rw [‹sm = true›]; rfl) | (rw [‹sm = false›, Zj9 (by omega) (by assumption)]; rfl) | (rw [‹sm = false›, Zof (by omega)]; rfl) | (rw [‹sm = false›, Zhm (by omega), Bool.false_or]) | (rw [‹sm = false›, Zhm (by omega), ‹Zc2 _ _ = false›]; rfl)), by dsimp only; omega⟩, by show l.length - (i + 1) < l.length - i; omega, ?_⟩
  refine Za7.drop [2] rfl (Ze4 rfl rfl) ?_ (Zet (Zj (Zev Zv Zaz (by decide)) (Zj (.inl rfl) (Zj (.inl rfl) (Zj (.inl rfl) (Zj (.inl rfl) (Zj (.inl rfl) (Zj (.inl rfl) (Zj (.inl rfl) (Zj (.inl rfl) (Zj (.inl rfl) (Zj (.inl rfl) (Zj (.inl rfl) (Zj (.inl rfl) Zds))))))))))))) (Zeu Zv Zaz))
  repeat (first | exact trivial | refine ⟨.inl rfl, ?_⟩ | refine ⟨.inr ⟨rfl, rfl⟩, ?_⟩ | refine ⟨.inr ⟨congrArg (Value.int .i64) (by first | omega | (dsimp only; omega)), rfl⟩, ?_⟩)
  refine Zl (vx := Zbd ((l.getD i default).1.items.getD q default)) (vy := Zbd z) rfl rfl (.bool false) rfl rfl (Eq.trans (Zk5 ((l.getD i default).1.items.getD q default) z) (by rw [h6] <;> rfl)) ?_
  refine Zk (.bool false) (Zb (.bool false) ?_)
  refine Zdm (Zc4 [[], [], [1], [1, 2], [0, 1, 2, 3], [0, 1, 2, 3, 4], [0, 1, 2, 3, 4, 5], [0, 1, 2, 3, 4, 5, 6], [0, 1, 2, 3, 4, 5], [0, 1, 2, 3, 4, 5, 6, 7, 8], [0, 1, 2, 3, 4, 5, 6, 7, 8, 9], [0, 1, 2, 3, 4, 5], [0, 1, 2, 3, 4, 5, 6, 7, 8, 9, 10, 11], [0, 1, 2, 3, 4, 5, 6, 7, 8, 9, 10, 11, 12], [0, 1, 2, 3, 4, 5, 6, 7, 8, 9, 10, 11, 12, 13]] (by kernel_rfl) (by kernel_rfl)) ?_
  refine Zc (Zf (Zf (Zg (Zd (.bool false) ?_))))
  refine Zfb (vx := .bool false) rfl rfl (.bool true) rfl Zcq ?_
  refine Zd (.bool true) (Zh (b := 2) (o := 0) (n := 1) (o' := 1) (Zn (p := pt 2 1) (v := Iv ((l.getD i default).1.log)) (Zd (Iv log) ?_)))
  by_cases h8 : log < ((l.getD i default).1.log)
  refine Zl (vx := Iv ((l.getD i default).1.log)) (vy := Iv log) rfl rfl (.bool true) rfl rfl (Zfs (by omega)) ?_
  refine Zd (.bool true) (Ze (Ze (Ze (Ze (Ze (Zk (.bool true) (Zk (.bool true) (Za (Zc (Zy rfl (Zf (Zg ?_))))))))))))
  refine Zs (Zik (G := G) kk hG hG1) (vals := []) (res' := .bool true) rfl rfl rfl rfl rfl rfl ?_
  refine Zb (.bool true) (Za (Zc (Zr (Z2 (Zar (Z2 (Zcy (Zar (Z2 ?_)))))))))
  exact Zey (v := .bool true) rfl ⟨rfl, fun i hi => Zbw Zv rfl hi, [], rfl, by decide, rfl, rfl⟩
  refine Zl (vx := Iv ((l.getD i default).1.log)) (vy := Iv log) rfl rfl (.bool false) rfl rfl (Zfr (by omega)) ?_
  refine Zd (.bool false) (Zd (Iv (q : Nat)) (Zh (b := 2) (o := 0) (n := 3) (o' := 3) (Zn (p := pt 2 3) (v := slv (i + 13) 0 ((l.getD i default).1.items.length) ((l.getD i default).2)) (Zaw (p := slv (i + 13) 0 ((l.getD i default).1.items.length) ((l.getD i default).2)) (v := Iv ((((l.getD i default).1.items.length) : Nat) : Int)) ?_))))
  refine Zl (vx := Iv (q : Nat)) (vy := Iv ((((l.getD i default).1.items.length) : Nat) : Int)) rfl rfl (.bool true) rfl rfl (Zck (by omega)) ?_
  refine Zk (.bool true) (Zk (.bool true) (Za (Zc (Zy rfl (Zf (Zg ?_))))))
  refine Zs (Zik (G := G) kk hG hG1) (vals := []) (res' := .bool true) rfl rfl rfl rfl rfl rfl ?_
  refine Zb (.bool true) (Za (Zc (Zr (Z2 (Zar (Z2 (Zcy (Zar (Z2 ?_)))))))))
  exact Zey (v := .bool true) rfl ⟨rfl, fun i hi => Zbw Zv rfl hi, [], rfl, by decide, rfl, rfl⟩
  refine Zl (vx := Iv (q : Nat)) (vy := Iv ((((l.getD i default).1.items.length) : Nat) : Int)) rfl rfl (.bool false) rfl rfl (Zcd (by omega)) ?_
  refine Zd (.bool false) (Ze (Ze (Ze (Ze (Ze (Ze (Ze (Zk (.bool false) (Zb (.bool false) ?_)))))))))
  refine Zdm (Zc4 [[], [], [1], [1, 2], [0, 1, 2, 3], [0, 1, 2, 3, 4], [0, 1, 2, 3, 4, 5], [0, 1, 2, 3, 4, 5, 6], [0, 1, 2, 3, 4, 5], [0, 1, 2, 3, 4, 5, 6, 7, 8], [0, 1, 2, 3, 4, 5, 6, 7, 8, 9], [0, 1, 2, 3, 4, 5], [0, 1, 2, 3, 4, 5, 6, 7, 8, 9, 10, 11], [0, 1, 2, 3, 4, 5, 6, 7, 8, 9, 10, 11, 12], [0, 1, 2, 3, 4, 5, 6, 7, 8, 9, 10, 11, 12, 13]] (by kernel_rfl) (by kernel_rfl)) ?_
  refine Zc (Zf (Zf (Zg (Zd (.bool false) ?_))))
  refine Zfb (vx := .bool false) rfl rfl (.bool true) rfl Zcq ?_
  refine Zd (.bool true) (Zh (b := 2) (o := 0) (n := 1) (o' := 1) (Zn (p := pt 2 1) (v := Iv ((l.getD i default).1.log)) (Zd (Iv log) ?_)))
  by_cases h9 : log < ((l.getD i default).1.log)
  refine Zl (vx := Iv ((l.getD i default).1.log)) (vy := Iv log) rfl rfl (.bool true) rfl rfl (Zfs (by omega)) ?_
  refine Zd (.bool true) (Ze (Ze (Ze (Ze (Ze (Zk (.bool true) (Zk (.bool true) (Za (Zc (Zy rfl (Zf (Zg ?_))))))))))))
  refine Zs (Zik (G := G) kk hG hG1) (vals := []) (res' := .bool true) rfl rfl rfl rfl rfl rfl ?_
  refine Zb (.bool true) (Za (Zc (Zr (Z2 (Zar (Z2 (Zcy (Zar (Z2 ?_)))))))))
  exact Zey (v := .bool true) rfl ⟨rfl, fun i hi => Zbw Zv rfl hi, [], rfl, by decide, rfl, rfl⟩
  refine Zl (vx := Iv ((l.getD i default).1.log)) (vy := Iv log) rfl rfl (.bool false) rfl rfl (Zfr (by omega)) ?_
  refine Zd (.bool false) (Zd (Iv (q : Nat)) (Zh (b := 2) (o := 0) (n := 3) (o' := 3) (Zn (p := pt 2 3) (v := slv (i + 13) 0 ((l.getD i default).1.items.length) ((l.getD i default).2)) (Zaw (p := slv (i + 13) 0 ((l.getD i default).1.items.length) ((l.getD i default).2)) (v := Iv ((((l.getD i default).1.items.length) : Nat) : Int)) ?_))))
  refine Zl (vx := Iv (q : Nat)) (vy := Iv ((((l.getD i default).1.items.length) : Nat) : Int)) rfl rfl (.bool false) rfl rfl (Zcd (by omega)) ?_
  refine Zk (.bool false) (Zk (.bool false) (Za (Zc (Zu rfl (Zz (Zc (Zg (Zd (.bool sm) (Zd (.bool sm) ?_)))))))))
  rcases Bool.eq_false_or_eq_true sm with h10 | h10
  refine Zoy (by exact congrArg (fun b => some (b == false)) h10) rfl ?_
  refine Zjl rfl rfl (.bool true) (by show some (if _ then _ else _) = _; rw [h10] <;> rfl) ?_
  refine Zb (.bool true) (Za (Z7 (Zc (Zg (Zd (Iv (i : Nat)) ?_)))))
  refine Zl (vx := Iv (i : Nat)) (vy := Iv 1) rfl rfl (Iv ((i : Nat) + 1)) rfl rfl (Zak (by omega) (by omega) (by omega)) ?_
  refine Zb (Iv ((i : Nat) + 1)) (Za ?_)
  refine Zag ⟨((i + 1), true), ⟨by first | exact Zle (by omega) hA (by omega) | exact Zss (by omega) hA (by omega) (by first | exact .inl (Zj9 (by omega) (by assumption)) | exact .inr ⟨by omega, by omega⟩) (by first | (rw [‹sm = true›]; rfl) | (rw [‹sm = false›, Zj9 (by omega) (by assumption)]; rfl) | (rw [‹sm = false›, Zof (by omega)]; rfl) | (rw [‹sm = false›, Zhm (by omega), Bool.false_or]) | (rw [‹sm = false›, Zhm (by omega), ‹Zc2 _ _ = false›]; rfl)), by dsimp only; omega⟩, by show l.length - (i + 1) < l.length - i; omega, ?_⟩
  refine Za7.drop [2] rfl (Ze4 rfl rfl) ?_ (Zet (Zj (Zev Zv Zaz (by decide)) (Zj (.inl rfl) (Zj (.inl rfl) (Zj (.inl rfl) (Zj (.inl rfl) (Zj (.inl rfl) (Zj (.inl rfl) (Zj (.inl rfl) (Zj (.inl rfl) (Zj (.inl rfl) (Zj (.inl rfl) (Zj (.inl rfl) (Zj (.inl rfl) Zds))))))))))))) (Zeu Zv Zaz))
  repeat (first | exact trivial | refine ⟨.inl rfl, ?_⟩ | refine ⟨.inr ⟨rfl, rfl⟩, ?_⟩ | refine ⟨.inr ⟨congrArg (Value.int .i64) (by first | omega | (dsimp only; omega)), rfl⟩, ?_⟩)
  refine Zcg (by exact congrArg (fun b => some (b == false)) h10) rfl (.bool false) rfl ?_
  refine Zjl rfl rfl (.bool false) (by show some (if _ then _ else _) = _; rw [h10] <;> rfl) ?_
  refine Zb (.bool false) (Za (Z7 (Zc (Zg (Zd (Iv (i : Nat)) ?_)))))
  refine Zl (vx := Iv (i : Nat)) (vy := Iv 1) rfl rfl (Iv ((i : Nat) + 1)) rfl rfl (Zak (by omega) (by omega) (by omega)) ?_
  refine Zb (Iv ((i : Nat) + 1)) (Za ?_)
  refine Zag ⟨((i + 1), false), ⟨by first | exact Zle (by omega) hA (by omega) | exact Zss (by omega) hA (by omega) (by first | exact .inl (Zj9 (by omega) (by assumption)) | exact .inr ⟨by omega, by omega⟩) (by first | (rw [‹sm = true›]; rfl) | (rw [‹sm = false›, Zj9 (by omega) (by assumption)]; rfl) | (rw [‹sm = false›, Zof (by omega)]; rfl) | (rw [‹sm = false›, Zhm (by omega), Bool.false_or]) | (rw [‹sm = false›, Zhm (by omega), ‹Zc2 _ _ = false›]; rfl)), by dsimp only; omega⟩, by show l.length - (i + 1) < l.length - i; omega, ?_⟩
  refine Za7.drop [2] rfl (Ze4 rfl rfl) ?_ (Zet (Zj (Zev Zv Zaz (by decide)) (Zj (.inl rfl) (Zj (.inl rfl) (Zj (.inl rfl) (Zj (.inl rfl) (Zj (.inl rfl) (Zj (.inl rfl) (Zj (.inl rfl) (Zj (.inl rfl) (Zj (.inl rfl) (Zj (.inl rfl) (Zj (.inl rfl) (Zj (.inl rfl) Zds))))))))))))) (Zeu Zv Zaz))
  repeat (first | exact trivial | refine ⟨.inl rfl, ?_⟩ | refine ⟨.inr ⟨rfl, rfl⟩, ?_⟩ | refine ⟨.inr ⟨congrArg (Value.int .i64) (by first | omega | (dsimp only; omega)), rfl⟩, ?_⟩)
  refine Zl (vx := Iv (i : Nat)) (vy := Iv (l.length : Nat)) rfl rfl (.bool false) rfl rfl (Zcd (by omega)) ?_
  refine Za (Zc (Zu rfl (Zbm (Zaq (Zax (Zav rfl (Zc (Zf (Zg (Zd (slv 0 0 l.length c) ?_))))))))))
  refine Znq (N := [rwB Zi ((Zq l).1.items)]) (b0 := 0) (kk := 13) (a := 0) (q := l.length) (L := l) (nid := 2) (Zjs (G := G) l c hc hb hS hB (by omega)) (vals := [slv 0 0 l.length c]) (v := .tuple #[mxV ([Iv ((Zq l).1.node), Iv ((Zq l).1.log), Iv ((Zq l).1.commit), slv 2 0 ((Zq l).1.items.length) ((Zq l).1.items.length)]), Iv ((Zq l).2.1), .bool ((Zq l).2.2)]) (H' := ([(Zv.B 13 l), (bxM 110 (Zbi z)), rwB Zi ((Zq l).1.items), hole, hole, hole, hole, hole, hole, hole, hole, hole, hole] ++ (l.map Zv.blk))) rfl rfl rfl rfl rfl rfl Zaz (by simp) (by omega) rfl (fun i hi => Zk2 Zv rfl hi) ⟨⟨rfl, rfl, rfl, by omega, by omega⟩, trivial⟩ rfl rfl (Z0n (Z0l (by kernel_rfl) (congrArg (fun q => [Value.int .i64 (Zq l).1.node, Iv (Zq l).1.log, Iv (Zq l).1.commit, q]) (Zri (Dcod.ext_new (j := 0) rfl (by show 0 < 1; decide))))) (Z0m rfl) (Z0m rfl)) (by kernel_rfl) ?_
  refine Zd (.tuple #[mxV ([Iv ((Zq l).1.node), Iv ((Zq l).1.log), Iv ((Zq l).1.commit), slv 2 0 ((Zq l).1.items.length) ((Zq l).1.items.length)]), Iv ((Zq l).2.1), .bool ((Zq l).2.2)]) (Z1 (vs := #[mxV ([Iv ((Zq l).1.node), Iv ((Zq l).1.log), Iv ((Zq l).1.commit), slv 2 0 ((Zq l).1.items.length) ((Zq l).1.items.length)]), Iv ((Zq l).2.1), .bool ((Zq l).2.2)]) (v := mxV ([Iv ((Zq l).1.node), Iv ((Zq l).1.log), Iv ((Zq l).1.commit), slv 2 0 ((Zq l).1.items.length) ((Zq l).1.items.length)])) (Z1 (vs := #[mxV ([Iv ((Zq l).1.node), Iv ((Zq l).1.log), Iv ((Zq l).1.commit), slv 2 0 ((Zq l).1.items.length) ((Zq l).1.items.length)]), Iv ((Zq l).2.1), .bool ((Zq l).2.2)]) (v := Iv ((Zq l).2.1)) (Z1 (vs := #[mxV ([Iv ((Zq l).1.node), Iv ((Zq l).1.log), Iv ((Zq l).1.commit), slv 2 0 ((Zq l).1.items.length) ((Zq l).1.items.length)]), Iv ((Zq l).2.1), .bool ((Zq l).2.2)]) (v := .bool ((Zq l).2.2)) ?_)))
  refine Zfh (b := (mxW 4 ([Iv 0, Iv 0, Iv 0, .slice none 0 0]))) (nid := 3) (H' := ([(Zv.B 13 l), (bxM 110 (Zbi z)), rwB Zi ((Zq l).1.items), (mxW 4 ([Iv 0, Iv 0, Iv 0, .slice none 0 0])), hole, hole, hole, hole, hole, hole, hole, hole, hole] ++ (l.map Zv.blk))) rfl rfl (by kernel_rfl) (by kernel_rfl) ?_
  refine Zab (p := pt 3 0) (v := mxV ([Iv ((Zq l).1.node), Iv ((Zq l).1.log), Iv ((Zq l).1.commit), slv 2 0 ((Zq l).1.items.length) ((Zq l).1.items.length)])) (b := 3) (blk := (mxW 4 ([Iv ((Zq l).1.node), Iv ((Zq l).1.log), Iv ((Zq l).1.commit), slv 2 0 ((Zq l).1.items.length) ((Zq l).1.items.length)]))) (H' := ([(Zv.B 13 l), (bxM 110 (Zbi z)), rwB Zi ((Zq l).1.items), (mxW 4 ([Iv ((Zq l).1.node), Iv ((Zq l).1.log), Iv ((Zq l).1.commit), slv 2 0 ((Zq l).1.items.length) ((Zq l).1.items.length)])), hole, hole, hole, hole, hole, hole, hole, hole, hole] ++ (l.map Zv.blk))) (Zb (Iv ((Zq l).2.1)) (Zb (.bool ((Zq l).2.2)) (Za (Zc (Zf ?_)))))
  refine Zgl (by kernel_rfl) ?_
  refine Zs (Zik (G := G) kk hG hG1) (vals := []) (res' := .bool true) rfl rfl rfl rfl rfl rfl ?_
  refine Zd (.bool true) (Zd (.bool ((Zq l).2.2)) ?_)
  rcases Bool.eq_false_or_eq_true ((Zq l).2.2) with h11 | h11
  refine Zfb (vx := .bool ((Zq l).2.2)) rfl rfl (.bool false) rfl (Eq.trans Zcq (congrArg (fun b => some (Value.bool !b)) h11)) ?_
  refine Zd (.bool false) (Zd (.bool sm) ?_)
  rcases Bool.eq_false_or_eq_true sm with h12 | h12
  refine Zfb (vx := .bool sm) rfl rfl (.bool false) rfl (Eq.trans Zcq (congrArg (fun b => some (Value.bool !b)) h12)) ?_
  refine Zk (.bool false) (Zd (.bool false) (Zd (Iv (q : Nat)) (Zh (b := 3) (o := 0) (n := 3) (o' := 3) (Zn (p := pt 3 3) (v := slv 2 0 ((Zq l).1.items.length) ((Zq l).1.items.length)) (Zaw (p := slv 2 0 ((Zq l).1.items.length) ((Zq l).1.items.length)) (v := Iv ((((Zq l).1.items.length) : Nat) : Int)) ?_)))))
  by_cases h13 : (q : Nat) < ((((Zq l).1.items.length) : Nat) : Int)
  refine Zl (vx := Iv (q : Nat)) (vy := Iv ((((Zq l).1.items.length) : Nat) : Int)) rfl rfl (.bool true) rfl rfl (Zck (by omega)) ?_
  refine Zd (.bool true) (Zh (b := 3) (o := 0) (n := 3) (o' := 3) (Zn (p := pt 3 3) (v := slv 2 0 ((Zq l).1.items.length) ((Zq l).1.items.length)) (Zd (Iv (q : Nat)) ?_)))
  refine Zbo (b := 2) (o := 0) (j := q * 110) (m := ((Zq l).1.items.length)) (c := ((Zq l).1.items.length)) (sz := 110) (i := (q : Nat)) (k := .i64) rfl rfl rfl rfl rfl (by omega) (by omega) (by omega) ?_
  refine Zal (p := pt 2 (q * 110)) (v := Zbd (((Zq l).1.items).getD q default)) rfl rfl rfl (Zf6 (n := 0) (m := 110) Zi rfl rfl rfl rfl (by omega) (by omega)) ?_
  refine Zn (p := pt 1 0) (v := Zbd z) ?_
  rcases Bool.eq_false_or_eq_true (Zc2 (((Zq l).1.items).getD q default) z) with h14 | h14
  refine Zl (vx := Zbd (((Zq l).1.items).getD q default)) (vy := Zbd z) rfl rfl (.bool true) rfl rfl (Eq.trans (Zk5 (((Zq l).1.items).getD q default) z) (by rw [h14] <;> rfl)) ?_
  refine Zk (.bool true) (Zk (.bool true) (Zk (.bool true) (Zb (.bool true) ?_)))
  refine Zdc (Zb2 [[], [0], [0, 1], [0, 1, 2], [0, 1, 2, 3], [0, 1, 2, 3, 4], [0, 1, 2, 3, 4, 5], [0, 1, 2, 3, 4, 5, 6], [0, 1, 2, 3, 4, 5, 6, 7], [0, 1, 2, 3, 4, 5, 6, 7, 8], [0, 1, 2, 3, 4, 5, 6, 7, 8], [0, 1, 2, 3, 4, 5, 6, 7, 8, 10], [0, 1, 2, 3, 4, 5, 6, 7, 8, 10, 11], [0, 1, 2, 3, 4, 5, 6, 7, 8, 9, 10, 11, 12], [0, 1, 2, 3, 4, 5, 6, 7, 8, 9, 10, 11, 12, 13], [0, 1, 2, 3, 4, 5, 6, 7, 8, 9, 10, 11, 12, 13, 14], [0, 1, 2, 3, 4, 5, 6, 7, 8, 9, 10, 11, 12, 13, 14, 15], [0, 1, 2, 3, 4, 5, 6, 7, 8, 9, 10, 11, 12, 13, 14], [0, 1, 2, 3, 4, 5, 6, 7, 8, 9, 10, 11, 12, 13, 14, 15, 16, 17], [0, 1, 2, 3, 4, 5, 6, 7, 8, 9, 10, 11, 12, 13, 14, 15, 16, 17, 18], [0, 1, 2, 3, 4, 5, 6, 7, 8, 9, 10, 11, 12, 13, 14], [0, 1, 2, 3, 4, 5, 6, 7, 8, 9, 10, 11, 12, 13, 14, 15, 16, 17, 18, 19, 20], [0, 1, 2, 3, 4, 5, 6, 7, 8, 9, 10, 11, 12, 13, 14, 15, 16, 17, 18, 19, 20, 21], [0, 1, 2, 3, 4, 5, 6, 7, 8, 9, 10, 11, 12, 13, 14, 15, 16, 17, 18, 19, 20, 21, 22], [0, 1, 2, 3, 4, 5, 6, 7, 8, 9, 10, 11, 12, 13, 14, 15, 16, 17, 18, 19, 20, 21, 22, 23], [0, 1, 2, 3, 4, 5, 6, 7, 8, 9, 10, 11, 12, 13, 14, 15, 16, 17, 18, 19, 20, 21, 22, 23, 24]] (by kernel_rfl) (by kernel_rfl)) ?_
  refine Zc (Zr ?_)
  exact Zey (v := .bool true) rfl ⟨rfl, fun i hi => Zbw Zv rfl hi, [], rfl, by decide, rfl, rfl⟩
  refine Zl (vx := Zbd (((Zq l).1.items).getD q default)) (vy := Zbd z) rfl rfl (.bool false) rfl rfl (Eq.trans (Zk5 (((Zq l).1.items).getD q default) z) (by rw [h14] <;> rfl)) ?_
  refine Zk (.bool false) (Zk (.bool false) (Zk (.bool false) (Zb (.bool false) ?_)))
  refine Zdc (Zb2 [[], [0], [0, 1], [0, 1, 2], [0, 1, 2, 3], [0, 1, 2, 3, 4], [0, 1, 2, 3, 4, 5], [0, 1, 2, 3, 4, 5, 6], [0, 1, 2, 3, 4, 5, 6, 7], [0, 1, 2, 3, 4, 5, 6, 7, 8], [0, 1, 2, 3, 4, 5, 6, 7, 8], [0, 1, 2, 3, 4, 5, 6, 7, 8, 10], [0, 1, 2, 3, 4, 5, 6, 7, 8, 10, 11], [0, 1, 2, 3, 4, 5, 6, 7, 8, 9, 10, 11, 12], [0, 1, 2, 3, 4, 5, 6, 7, 8, 9, 10, 11, 12, 13], [0, 1, 2, 3, 4, 5, 6, 7, 8, 9, 10, 11, 12, 13, 14], [0, 1, 2, 3, 4, 5, 6, 7, 8, 9, 10, 11, 12, 13, 14, 15], [0, 1, 2, 3, 4, 5, 6, 7, 8, 9, 10, 11, 12, 13, 14], [0, 1, 2, 3, 4, 5, 6, 7, 8, 9, 10, 11, 12, 13, 14, 15, 16, 17], [0, 1, 2, 3, 4, 5, 6, 7, 8, 9, 10, 11, 12, 13, 14, 15, 16, 17, 18], [0, 1, 2, 3, 4, 5, 6, 7, 8, 9, 10, 11, 12, 13, 14], [0, 1, 2, 3, 4, 5, 6, 7, 8, 9, 10, 11, 12, 13, 14, 15, 16, 17, 18, 19, 20], [0, 1, 2, 3, 4, 5, 6, 7, 8, 9, 10, 11, 12, 13, 14, 15, 16, 17, 18, 19, 20, 21], [0, 1, 2, 3, 4, 5, 6, 7, 8, 9, 10, 11, 12, 13, 14, 15, 16, 17, 18, 19, 20, 21, 22], [0, 1, 2, 3, 4, 5, 6, 7, 8, 9, 10, 11, 12, 13, 14, 15, 16, 17, 18, 19, 20, 21, 22, 23], [0, 1, 2, 3, 4, 5, 6, 7, 8, 9, 10, 11, 12, 13, 14, 15, 16, 17, 18, 19, 20, 21, 22, 23, 24]] (by kernel_rfl) (by kernel_rfl)) ?_
  refine Zc (Zr ?_)
  exfalso
  have hke := Zp8 (by omega) hA (by assumption) (by assumption : (Zq l).2.2 = true)
  first | (rw [Zof (by omega)] at hke; cases hke) | (rw [Zhm (by omega), ‹Zc2 _ _ = false›] at hke; cases hke) | (rw [Zhm (by omega)] at hke; simp_all)
  refine Zl (vx := Iv (q : Nat)) (vy := Iv ((((Zq l).1.items.length) : Nat) : Int)) rfl rfl (.bool false) rfl rfl (Zcd (by omega)) ?_
  refine Zd (.bool false) (Ze (Ze (Ze (Ze (Ze (Ze (Ze (Zk (.bool false) (Zk (.bool false) (Zk (.bool false) (Zb (.bool false) ?_)))))))))))
  refine Zdc (Zb2 [[], [0], [0, 1], [0, 1, 2], [0, 1, 2, 3], [0, 1, 2, 3, 4], [0, 1, 2, 3, 4, 5], [0, 1, 2, 3, 4, 5, 6], [0, 1, 2, 3, 4, 5, 6, 7], [0, 1, 2, 3, 4, 5, 6, 7, 8], [0, 1, 2, 3, 4, 5, 6, 7, 8], [0, 1, 2, 3, 4, 5, 6, 7, 8, 10], [0, 1, 2, 3, 4, 5, 6, 7, 8, 10, 11], [0, 1, 2, 3, 4, 5, 6, 7, 8, 9, 10, 11, 12], [0, 1, 2, 3, 4, 5, 6, 7, 8, 9, 10, 11, 12, 13], [0, 1, 2, 3, 4, 5, 6, 7, 8, 9, 10, 11, 12, 13, 14], [0, 1, 2, 3, 4, 5, 6, 7, 8, 9, 10, 11, 12, 13, 14, 15], [0, 1, 2, 3, 4, 5, 6, 7, 8, 9, 10, 11, 12, 13, 14], [0, 1, 2, 3, 4, 5, 6, 7, 8, 9, 10, 11, 12, 13, 14, 15, 16, 17], [0, 1, 2, 3, 4, 5, 6, 7, 8, 9, 10, 11, 12, 13, 14, 15, 16, 17, 18], [0, 1, 2, 3, 4, 5, 6, 7, 8, 9, 10, 11, 12, 13, 14], [0, 1, 2, 3, 4, 5, 6, 7, 8, 9, 10, 11, 12, 13, 14, 15, 16, 17, 18, 19, 20], [0, 1, 2, 3, 4, 5, 6, 7, 8, 9, 10, 11, 12, 13, 14, 15, 16, 17, 18, 19, 20, 21], [0, 1, 2, 3, 4, 5, 6, 7, 8, 9, 10, 11, 12, 13, 14, 15, 16, 17, 18, 19, 20, 21, 22], [0, 1, 2, 3, 4, 5, 6, 7, 8, 9, 10, 11, 12, 13, 14, 15, 16, 17, 18, 19, 20, 21, 22, 23], [0, 1, 2, 3, 4, 5, 6, 7, 8, 9, 10, 11, 12, 13, 14, 15, 16, 17, 18, 19, 20, 21, 22, 23, 24]] (by kernel_rfl) (by kernel_rfl)) ?_
  refine Zc (Zr ?_)
  exfalso
  have hke := Zp8 (by omega) hA (by assumption) (by assumption : (Zq l).2.2 = true)
  first | (rw [Zof (by omega)] at hke; cases hke) | (rw [Zhm (by omega), ‹Zc2 _ _ = false›] at hke; cases hke) | (rw [Zhm (by omega)] at hke; simp_all)
  refine Zfb (vx := .bool sm) rfl rfl (.bool true) rfl (Eq.trans Zcq (congrArg (fun b => some (Value.bool !b)) h12)) ?_
  refine Zk (.bool true) (Zd (.bool true) (Ze (Ze (Ze (Ze (Ze (Ze (Ze (Ze (Ze (Ze (Ze (Ze (Ze (Ze (Zk (.bool true) (Zk (.bool true) (Zb (.bool true) ?_))))))))))))))))))
  refine Zdc (Zb2 [[], [0], [0, 1], [0, 1, 2], [0, 1, 2, 3], [0, 1, 2, 3, 4], [0, 1, 2, 3, 4, 5], [0, 1, 2, 3, 4, 5, 6], [0, 1, 2, 3, 4, 5, 6, 7], [0, 1, 2, 3, 4, 5, 6, 7, 8], [0, 1, 2, 3, 4, 5, 6, 7, 8], [0, 1, 2, 3, 4, 5, 6, 7, 8, 10], [0, 1, 2, 3, 4, 5, 6, 7, 8, 10, 11], [0, 1, 2, 3, 4, 5, 6, 7, 8, 9, 10, 11, 12], [0, 1, 2, 3, 4, 5, 6, 7, 8, 9, 10, 11, 12, 13], [0, 1, 2, 3, 4, 5, 6, 7, 8, 9, 10, 11, 12, 13, 14], [0, 1, 2, 3, 4, 5, 6, 7, 8, 9, 10, 11, 12, 13, 14, 15], [0, 1, 2, 3, 4, 5, 6, 7, 8, 9, 10, 11, 12, 13, 14], [0, 1, 2, 3, 4, 5, 6, 7, 8, 9, 10, 11, 12, 13, 14, 15, 16, 17], [0, 1, 2, 3, 4, 5, 6, 7, 8, 9, 10, 11, 12, 13, 14, 15, 16, 17, 18], [0, 1, 2, 3, 4, 5, 6, 7, 8, 9, 10, 11, 12, 13, 14], [0, 1, 2, 3, 4, 5, 6, 7, 8, 9, 10, 11, 12, 13, 14, 15, 16, 17, 18, 19, 20], [0, 1, 2, 3, 4, 5, 6, 7, 8, 9, 10, 11, 12, 13, 14, 15, 16, 17, 18, 19, 20, 21], [0, 1, 2, 3, 4, 5, 6, 7, 8, 9, 10, 11, 12, 13, 14, 15, 16, 17, 18, 19, 20, 21, 22], [0, 1, 2, 3, 4, 5, 6, 7, 8, 9, 10, 11, 12, 13, 14, 15, 16, 17, 18, 19, 20, 21, 22, 23], [0, 1, 2, 3, 4, 5, 6, 7, 8, 9, 10, 11, 12, 13, 14, 15, 16, 17, 18, 19, 20, 21, 22, 23, 24]] (by kernel_rfl) (by kernel_rfl)) ?_
  refine Zc (Zr ?_)
  exact Zey (v := .bool true) rfl ⟨rfl, fun i hi => Zbw Zv rfl hi, [], rfl, by decide, rfl, rfl⟩
  refine Zfb (vx := .bool ((Zq l).2.2)) rfl rfl (.bool true) rfl (Eq.trans Zcq (congrArg (fun b => some (Value.bool !b)) h11)) ?_
  refine Zd (.bool true) (Ze (Ze (Zk (.bool true) (Zd (.bool true) (Ze (Ze (Ze (Ze (Ze (Ze (Ze (Ze (Ze (Ze (Ze (Ze (Ze (Ze (Zk (.bool true) (Zk (.bool true) (Zb (.bool true) ?_)))))))))))))))))))))
  refine Zdc (Zb2 [[], [0], [0, 1], [0, 1, 2], [0, 1, 2, 3], [0, 1, 2, 3, 4], [0, 1, 2, 3, 4, 5], [0, 1, 2, 3, 4, 5, 6], [0, 1, 2, 3, 4, 5, 6, 7], [0, 1, 2, 3, 4, 5, 6, 7, 8], [0, 1, 2, 3, 4, 5, 6, 7, 8], [0, 1, 2, 3, 4, 5, 6, 7, 8, 10], [0, 1, 2, 3, 4, 5, 6, 7, 8, 10, 11], [0, 1, 2, 3, 4, 5, 6, 7, 8, 9, 10, 11, 12], [0, 1, 2, 3, 4, 5, 6, 7, 8, 9, 10, 11, 12, 13], [0, 1, 2, 3, 4, 5, 6, 7, 8, 9, 10, 11, 12, 13, 14], [0, 1, 2, 3, 4, 5, 6, 7, 8, 9, 10, 11, 12, 13, 14, 15], [0, 1, 2, 3, 4, 5, 6, 7, 8, 9, 10, 11, 12, 13, 14], [0, 1, 2, 3, 4, 5, 6, 7, 8, 9, 10, 11, 12, 13, 14, 15, 16, 17], [0, 1, 2, 3, 4, 5, 6, 7, 8, 9, 10, 11, 12, 13, 14, 15, 16, 17, 18], [0, 1, 2, 3, 4, 5, 6, 7, 8, 9, 10, 11, 12, 13, 14], [0, 1, 2, 3, 4, 5, 6, 7, 8, 9, 10, 11, 12, 13, 14, 15, 16, 17, 18, 19, 20], [0, 1, 2, 3, 4, 5, 6, 7, 8, 9, 10, 11, 12, 13, 14, 15, 16, 17, 18, 19, 20, 21], [0, 1, 2, 3, 4, 5, 6, 7, 8, 9, 10, 11, 12, 13, 14, 15, 16, 17, 18, 19, 20, 21, 22], [0, 1, 2, 3, 4, 5, 6, 7, 8, 9, 10, 11, 12, 13, 14, 15, 16, 17, 18, 19, 20, 21, 22, 23], [0, 1, 2, 3, 4, 5, 6, 7, 8, 9, 10, 11, 12, 13, 14, 15, 16, 17, 18, 19, 20, 21, 22, 23, 24]] (by kernel_rfl) (by kernel_rfl)) ?_
  refine Zc (Zr ?_)
  exact Zey (v := .bool true) rfl ⟨rfl, fun i hi => Zbw Zv rfl hi, [], rfl, by decide, rfl, rfl⟩
end Go.Flat
