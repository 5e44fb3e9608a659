/- Walks. -/
import Derived.Test.YtlnggiomppkjmaaDoorA1
set_option linter.unusedVariables false
set_option linter.unusedSimpArgs false
set_option maxRecDepth 20000
namespace Go.Flat
open Go.Proofs
variable {G : Glob}
theorem Zlj {α : Type} (c : Cod α) (l : List α) : ((c.row l).drop 0).take (c.row l).length = c.row l := by rw [List.drop_zero, List.take_length]
def Z9 : Dcod (TailT × Nat) := { enc := fun x b => [.int .i64 x.1.node, .int .i64 x.1.log, .int .i64 x.1.commit, slv b 0 x.1.items.length x.2], n := 4, len := fun _ _ => by kernel_rfl, pos := by decide, blk := fun x => rwR Zh x.1.items }
theorem Zcw : Z9.OK := by
 refine ⟨?_, ?_, fun _ => rfl, fun _ => rfl, fun _ => by show 0 < 110; decide, fun _ => rfl⟩
 ·intro e x b b' h
  show (([Iv x.1.node, Iv x.1.log, Iv x.1.commit, slv b 0 x.1.items.length x.2]) : List Value).map (Ze0 e) = [Iv x.1.node, Iv x.1.log, Iv x.1.commit, slv b' 0 x.1.items.length x.2]
  simp only [List.map_append, List.map_cons, List.map_nil, Zv2 h]; rfl
 ·intro p x b h
  show (([Iv x.1.node, Iv x.1.log, Iv x.1.commit, slv b 0 x.1.items.length x.2]) : List Value).all (Zal p) = true
  simp only [List.all_append, List.all_cons, List.all_nil, Bool.and_true, Bool.true_and]
  simp only [Zal, Zcp, slv, h, Bool.and_true, Bool.true_and]
def okT (x : TailT × Nat) : Prop := (x.1.items.length ≤ x.2 ∧ x.2 ≤ 9223372036854775807) ∧ (-9223372036854775808 ≤ x.1.node ∧ x.1.node ≤ 9223372036854775807) ∧ (-9223372036854775808 ≤ x.1.log ∧ x.1.log ≤ 9223372036854775807) ∧ -9223372036854775808 ≤ x.1.commit ∧ x.1.commit ≤ 9223372036854775807
def Z6o (l : List (TailT × Nat)) : Bool := decide (20 < l.length) || l.any fun x => Zjw x.1.items
def Zf3 (l : List (TailT × Nat)) : Nat → Nat
  | 0 => 0
  | i + 1 => if 0 < Zmw (l.getD (i + 1) default).1 (l.getD (Zf3 l i) default).1 then i + 1 else Zf3 l i
theorem Zrj (l : List (TailT × Nat)) : ∀ i, Zf3 l i ≤ i
 | 0 => Nat.le_refl _
 | i + 1 => by
  have := Zrj l i
  unfold Zf3; split <;> omega
def Zv (l : List (TailT × Nat)) : Nat := Zf3 l (l.length - 1)
def Za5 (l : List (TailT × Nat)) : List Int := l.map fun x => x.1.commit
theorem Zrw (l : List (TailT × Nat)) : (Za5 l).length = l.length := by simp [Za5]
theorem Zqk {l : List (TailT × Nat)} {i : Nat} {acc : List Int} (h : acc = Za5 (l.take i)) (hi : i < l.length) : acc ++ [(l.getD i default).1.commit] = Za5 (l.take (i + 1)) := by
 subst h
 unfold Za5
 rw [List.take_succ_eq_append_getElem hi, List.map_append, List.getD_eq_getElem?_getD, List.getElem?_eq_getElem hi]; rfl
theorem Zvc {l : List (TailT × Nat)} {i at_ : Nat} (h : at_ = Zf3 l (i - 1)) (h1 : 1 ≤ i) (hc : 0 < Zmw (l.getD i default).1 (l.getD at_ default).1) : i = Zf3 l (i + 1 - 1) := by
 subst h
 obtain ⟨j, rfl⟩ : ∃ j, i = j + 1 := ⟨i - 1, by omega⟩
 replace hc : 0 < Zmw (l.getD (j + 1) default).1 (l.getD (Zf3 l j) default).1 := hc
 show j + 1 = Zf3 l (j + 1)
 rw [Zf3, if_pos hc]
theorem Zvd {l : List (TailT × Nat)} {i at_ : Nat} (h : at_ = Zf3 l (i - 1)) (h1 : 1 ≤ i) (hc : ¬ 0 < Zmw (l.getD i default).1 (l.getD at_ default).1) : at_ = Zf3 l (i + 1 - 1) := by
 obtain ⟨j, rfl⟩ : ∃ j, i = j + 1 := ⟨i - 1, by omega⟩
 subst h
 replace hc : ¬ 0 < Zmw (l.getD (j + 1) default).1 (l.getD (Zf3 l j) default).1 := hc
 show Zf3 l j = Zf3 l (j + 1)
 rw [Zf3, if_neg hc]
theorem Zya {l : List (TailT × Nat)} (h : 0 < l.length) : Zv l < l.length := by
 have := Zrj l (l.length - 1)
 unfold Zv; omega
theorem Ztl (l : List (TailT × Nat)) (c : Nat) (hc : l.length ≤ c) (hb : c ≤ 9223372036854775807) (hS : ∀ i, i < l.length → okT (l.getD i default)) (hB : ∀ i, i < l.length → (l.getD i default).1.items.length ≤ 60) (h0 : 0 < l.length) : Z4 Tryd.prog G 23 [slv 0 0 l.length c, .func (.func 24) #[] #[]] (Z9.S 0 l) (mxV (Z9.enc (l.getD (Zv l) default) (Zv l + 1))) ((Z9.S 0 l) ++ []) := by
  refine Z4.deep (fn := Tryd.f23) (nt := 33) (N := []) 12 rfl rfl rfl rfl Zcw ⟨⟨rfl, rfl, rfl, by first | omega | exact Nat.le_refl _, by first | omega | exact Nat.le_refl _⟩, (by first | rfl | exact ⟨by kernel_rfl, by kernel_rfl⟩), trivial⟩ rfl rfl ?_
  refine Zia (H' := ([(Z9.B 13 l), hole, hole, hole, hole, hole, hole, hole, hole, hole, hole, hole, hole] ++ (l.map Z9.blk))) rfl ?_
  refine Ze (Zg ?_)
  refine Zgy (b := (mxW 4 ([Iv 0, Iv 0, Iv 0, .slice none 0 0]))) (nid := 1) (H' := ([(Z9.B 13 l), (mxW 4 ([Iv 0, Iv 0, Iv 0, .slice none 0 0])), hole, hole, hole, hole, hole, hole, hole, hole, hole, hole, hole] ++ (l.map Z9.blk))) rfl rfl (by kernel_rfl) (by kernel_rfl) ?_
  refine Za (Zb (Ze (Ze (Zg (Zd (slv 0 0 l.length c) (Zba (p := slv 0 0 l.length c) (v := Iv (l.length : Nat)) ?_))))))
  refine Zl (vx := Iv (l.length : Nat)) (vy := Iv 1) rfl rfl (.bool false) rfl rfl (Zct (by omega)) ?_
  refine Za (Zb (Zt rfl (Zx (Zb (Ze (Zg (Zd (slv 0 0 l.length c) ?_)))))))
  refine Zb1 (b := 0) (o := 0) (j := 0) (m := l.length) (c := c) (sz := 4) (i := 0) (k := .i64) rfl rfl rfl rfl rfl (by omega) (by omega) (by omega) ?_
  refine Zaj (p := pt 0 0) (v := mxV ([Iv ((l.getD 0 default).1.node), Iv ((l.getD 0 default).1.log), Iv ((l.getD 0 default).1.commit), slv (0 + 13) 0 ((l.getD 0 default).1.items.length) ((l.getD 0 default).2)])) rfl rfl rfl (Zja Z9 (l := l) (i := 0) (K := 13) (m := 4) rfl rfl rfl (by omega) (by omega)) ?_
  refine Zgy (b := (mxW 4 ([Iv 0, Iv 0, Iv 0, .slice none 0 0]))) (nid := 2) (H' := ([(Z9.B 13 l), (mxW 4 ([Iv 0, Iv 0, Iv 0, .slice none 0 0])), (mxW 4 ([Iv 0, Iv 0, Iv 0, .slice none 0 0])), hole, hole, hole, hole, hole, hole, hole, hole, hole, hole] ++ (l.map Z9.blk))) rfl rfl (by kernel_rfl) (by kernel_rfl) ?_
  refine Zaa (p := pt 2 0) (v := mxV ([Iv ((l.getD 0 default).1.node), Iv ((l.getD 0 default).1.log), Iv ((l.getD 0 default).1.commit), slv (0 + 13) 0 ((l.getD 0 default).1.items.length) ((l.getD 0 default).2)])) (b := 2) (blk := (mxW 4 ([Iv ((l.getD 0 default).1.node), Iv ((l.getD 0 default).1.log), Iv ((l.getD 0 default).1.commit), slv (0 + 13) 0 ((l.getD 0 default).1.items.length) ((l.getD 0 default).2)]))) (H' := ([(Z9.B 13 l), (mxW 4 ([Iv 0, Iv 0, Iv 0, .slice none 0 0])), (mxW 4 ([Iv ((l.getD 0 default).1.node), Iv ((l.getD 0 default).1.log), Iv ((l.getD 0 default).1.commit), slv (0 + 13) 0 ((l.getD 0 default).1.items.length) ((l.getD 0 default).2)])), hole, hole, hole, hole, hole, hole, hole, hole, hole, hole] ++ (l.map Z9.blk))) (Za (Zb (Ze (Ze (Zg (Zc (Iv 1) (Za (Zb (Z7 ?_)))))))))
  refine Zb2 (fun x : Nat × Nat => match x with | (i, at_) => [slv 0 0 l.length c, .func (.func 24) #[] #[], dead, dead, pt 1 0, pt 2 0, Iv (i : Nat), slv 0 0 l.length c, Iv (l.length : Nat), .bool false, dead, slv 0 0 l.length c, pt 0 0, mxV ([Iv ((l.getD 0 default).1.node), Iv ((l.getD 0 default).1.log), Iv ((l.getD 0 default).1.commit), slv (0 + 13) 0 ((l.getD 0 default).1.items.length) ((l.getD 0 default).2)])]) (fun x : Nat × Nat => match x with | (i, at_) => ([(Z9.B 13 l), (mxW 4 ([Iv 0, Iv 0, Iv 0, .slice none 0 0])), (mxW 4 ([Iv ((l.getD at_ default).1.node), Iv ((l.getD at_ default).1.log), Iv ((l.getD at_ default).1.commit), slv (at_ + 13) 0 ((l.getD at_ default).1.items.length) ((l.getD at_ default).2)])), hole, hole, hole, hole, hole, hole, hole, hole, hole, hole] ++ (l.map Z9.blk))) (fun x : Nat × Nat => match x with | (i, at_) => at_ = Zf3 l (i - 1) ∧ 1 ≤ i ∧ i ≤ l.length ∧ at_ < l.length) (fun x : Nat × Nat => match x with | (i, at_) => l.length - i) (1, 0) ⟨rfl, by omega, by omega, by omega⟩ ?_ ?_
  · refine Zbe.drop [] rfl (fun b => rfl) ?_ (fun x _ => Zqw x)
    repeat (first | exact trivial | refine ⟨.inl rfl, ?_⟩ | refine ⟨.inr ⟨rfl, rfl⟩, ?_⟩ | refine ⟨.inr ⟨congrArg (Value.int .i64) (by first | omega | (dsimp only; omega)), rfl⟩, ?_⟩)
  rintro ⟨i, at_⟩ ⟨hA, h1, hi, hat⟩
  dsimp only at *
  refine Ze (Ze (Zg (Zd (Iv (i : Nat)) (Zd (slv 0 0 l.length c) (Zba (p := slv 0 0 l.length c) (v := Iv (l.length : Nat)) ?_)))))
  by_cases h1 : (i : Nat) < (l.length : Nat)
  refine Zl (vx := Iv (i : Nat)) (vy := Iv (l.length : Nat)) rfl rfl (.bool true) rfl rfl (Zc0 (by omega)) ?_
  refine Za (Zb (Zy rfl (Zx (Zb (Ze (Z7 (Ze ?_)))))))
  have hok := hS i (by omega)
  obtain ⟨⟨ho1, ho2⟩, ⟨ho3, ho4⟩, ⟨ho5, ho6⟩, ho7, ho8⟩ := hok
  have hok' := hS at_ (by omega)
  obtain ⟨⟨hp1, hp2⟩, ⟨hp3, hp4⟩, ⟨hp5, hp6⟩, hp7, hp8⟩ := hok'
  have hbi := hB i (by omega)
  have hba := hB at_ (by omega)
  refine Zha (by kernel_rfl) ?_
  refine Zd (.func (.func 24) #[] #[]) (Zd (slv 0 0 l.length c) (Zd (Iv (i : Nat)) ?_))
  refine Zb1 (b := 0) (o := 0) (j := i * 4) (m := l.length) (c := c) (sz := 4) (i := (i : Nat)) (k := .i64) rfl rfl rfl rfl rfl (by omega) (by omega) (by omega) ?_
  refine Zaj (p := pt 0 (i * 4)) (v := mxV ([Iv ((l.getD i default).1.node), Iv ((l.getD i default).1.log), Iv ((l.getD i default).1.commit), slv (i + 13) 0 ((l.getD i default).1.items.length) ((l.getD i default).2)])) rfl rfl rfl (Zja Z9 (l := l) (i := i) (K := 13) (m := 4) rfl rfl rfl (by omega) (by omega)) ?_
  refine Zm (p := pt 2 0) (v := mxV ([Iv ((l.getD at_ default).1.node), Iv ((l.getD at_ default).1.log), Iv ((l.getD at_ default).1.commit), slv (at_ + 13) 0 ((l.getD at_ default).1.items.length) ((l.getD at_ default).2)])) ?_
  refine Z0 (e := [some ((i + 13), 0), some ((at_ + 13), 0)]) (nid := 0) (Z07 (G := G) ((l.getD i default).1) ((l.getD i default).1.items.length) ((l.getD i default).2) (rfl : _ = _) (by omega) (by omega) ((l.getD at_ default).1) ((l.getD at_ default).1.items.length) ((l.getD at_ default).2) (rfl : _ = _) (by omega) (by omega)) (vals := [mxV ([Iv ((l.getD i default).1.node), Iv ((l.getD i default).1.log), Iv ((l.getD i default).1.commit), slv (i + 13) 0 ((l.getD i default).1.items.length) ((l.getD i default).2)]), mxV ([Iv ((l.getD at_ default).1.node), Iv ((l.getD at_ default).1.log), Iv ((l.getD at_ default).1.commit), slv (at_ + 13) 0 ((l.getD at_ default).1.items.length) ((l.getD at_ default).2)])]) (v := Iv (Zmw ((l.getD i default).1) ((l.getD at_ default).1))) (H' := ([(Z9.B 13 l), (mxW 4 ([Iv 0, Iv 0, Iv 0, .slice none 0 0])), (mxW 4 ([Iv ((l.getD at_ default).1.node), Iv ((l.getD at_ default).1.log), Iv ((l.getD at_ default).1.commit), slv (at_ + 13) 0 ((l.getD at_ default).1.items.length) ((l.getD at_ default).2)])), hole, hole, hole, hole, hole, hole, hole, hole, hole, hole] ++ (l.map Z9.blk))) rfl rfl rfl rfl rfl rfl rfl ⟨⟨(Zbh (by kernel_rfl) ⟨⟨rfl, rfl⟩, ⟨rfl, rfl⟩, ⟨rfl, rfl⟩, ⟨rfl, rfl, rfl, by first | omega | exact Nat.le_refl _, by first | omega | exact Nat.le_refl _⟩, trivial⟩), (Zbh (by kernel_rfl) ⟨⟨rfl, rfl⟩, ⟨rfl, rfl⟩, ⟨rfl, rfl⟩, ⟨rfl, rfl, rfl, by first | omega | exact Nat.le_refl _, by first | omega | exact Nat.le_refl _⟩, trivial⟩), trivial⟩, ⟨(Zcn (Ze8 Z9 (l := l) (i := i) rfl (by omega)) rfl (by show 0 + (Zh.row _).length ≤ (Zh.row _).length; omega) (Zlj Zh _)), (Zcn (Ze8 Z9 (l := l) (i := at_) rfl (by omega)) rfl (by show 0 + (Zh.row _).length ≤ (Zh.row _).length; omega) (Zlj Zh _)), trivial⟩, rfl, rfl, rfl⟩ rfl (by kernel_rfl) ?_
  by_cases h2 : 0 < (Zmw ((l.getD i default).1) ((l.getD at_ default).1))
  refine Zl (vx := Iv (Zmw ((l.getD i default).1) ((l.getD at_ default).1))) (vy := Iv 0) rfl rfl (.bool true) rfl rfl (Zgu (by omega)) ?_
  refine Zet (Zc1 [[], [], [], [1, 2], [1, 2, 3], [], [0, 1, 2, 3, 4, 5], [0, 1, 2, 3, 4, 5, 6]] (by kernel_rfl) (by kernel_rfl)) ?_
  refine Zb (Zy rfl (Zg (Zd (slv 0 0 l.length c) (Zd (Iv (i : Nat)) ?_))))
  refine Zb1 (b := 0) (o := 0) (j := i * 4) (m := l.length) (c := c) (sz := 4) (i := (i : Nat)) (k := .i64) rfl rfl rfl rfl rfl (by omega) (by omega) (by omega) ?_
  refine Zaj (p := pt 0 (i * 4)) (v := mxV ([Iv ((l.getD i default).1.node), Iv ((l.getD i default).1.log), Iv ((l.getD i default).1.commit), slv (i + 13) 0 ((l.getD i default).1.items.length) ((l.getD i default).2)])) rfl rfl rfl (Zja Z9 (l := l) (i := i) (K := 13) (m := 4) rfl rfl rfl (by omega) (by omega)) ?_
  refine Zaa (p := pt 2 0) (v := mxV ([Iv ((l.getD i default).1.node), Iv ((l.getD i default).1.log), Iv ((l.getD i default).1.commit), slv (i + 13) 0 ((l.getD i default).1.items.length) ((l.getD i default).2)])) (b := 2) (blk := (mxW 4 ([Iv ((l.getD i default).1.node), Iv ((l.getD i default).1.log), Iv ((l.getD i default).1.commit), slv (i + 13) 0 ((l.getD i default).1.items.length) ((l.getD i default).2)]))) (H' := ([(Z9.B 13 l), (mxW 4 ([Iv 0, Iv 0, Iv 0, .slice none 0 0])), (mxW 4 ([Iv ((l.getD i default).1.node), Iv ((l.getD i default).1.log), Iv ((l.getD i default).1.commit), slv (i + 13) 0 ((l.getD i default).1.items.length) ((l.getD i default).2)])), hole, hole, hole, hole, hole, hole, hole, hole, hole, hole] ++ (l.map Z9.blk))) (Za (Z8 (Zb (Zg (Zd (Iv (i : Nat)) ?_)))))
  refine Zl (vx := Iv (i : Nat)) (vy := Iv 1) rfl rfl (Iv ((i : Nat) + 1)) rfl rfl (Zan (by omega) (by omega) (by omega)) ?_
  refine Zc (Iv ((i : Nat) + 1)) (Za ?_)
  refine Zak ⟨((i + 1), i), ⟨by first | exact Zvc hA (by omega) (by omega) | exact Zvd hA (by omega) (by omega), by omega, by omega, by omega⟩, by show l.length - (i + 1) < l.length - i; omega, ?_⟩
  refine Zbe.drop [] rfl (Zjm rfl rfl) ?_ (Zii (Zp (Zik Z9 Zcw (by decide)) (Zp (.inr (by kernel_rfl)) (Zp (.inr (by kernel_rfl)) (Zp (.inl rfl) (Zp (.inl rfl) (Zp (.inl rfl) (Zp (.inl rfl) (Zp (.inl rfl) (Zp (.inl rfl) (Zp (.inl rfl) (Zp (.inl rfl) (Zp (.inl rfl) (Zp (.inl rfl) Zfz))))))))))))) (Zij Z9 Zcw))
  repeat (first | exact trivial | refine ⟨.inl rfl, ?_⟩ | refine ⟨.inr ⟨rfl, rfl⟩, ?_⟩ | refine ⟨.inr ⟨congrArg (Value.int .i64) (by first | omega | (dsimp only; omega)), rfl⟩, ?_⟩)
  refine Zl (vx := Iv (Zmw ((l.getD i default).1) ((l.getD at_ default).1))) (vy := Iv 0) rfl rfl (.bool false) rfl rfl (Zgt (by omega)) ?_
  refine Zet (Zc1 [[], [], [], [1, 2], [1, 2, 3], [], [0, 1, 2, 3, 4, 5], [0, 1, 2, 3, 4, 5, 6]] (by kernel_rfl) (by kernel_rfl)) ?_
  refine Zb (Zt rfl (Zx (Z8 (Zb (Zg (Zd (Iv (i : Nat)) ?_))))))
  refine Zl (vx := Iv (i : Nat)) (vy := Iv 1) rfl rfl (Iv ((i : Nat) + 1)) rfl rfl (Zan (by omega) (by omega) (by omega)) ?_
  refine Zc (Iv ((i : Nat) + 1)) (Za ?_)
  refine Zak ⟨((i + 1), at_), ⟨by first | exact Zvc hA (by omega) (by omega) | exact Zvd hA (by omega) (by omega), by omega, by omega, by omega⟩, by show l.length - (i + 1) < l.length - i; omega, ?_⟩
  refine Zbe.drop [] rfl (Zjm rfl rfl) ?_ (Zii (Zp (Zik Z9 Zcw (by decide)) (Zp (.inr (by kernel_rfl)) (Zp (.inr (by kernel_rfl)) (Zp (.inl rfl) (Zp (.inl rfl) (Zp (.inl rfl) (Zp (.inl rfl) (Zp (.inl rfl) (Zp (.inl rfl) (Zp (.inl rfl) (Zp (.inl rfl) (Zp (.inl rfl) (Zp (.inl rfl) Zfz))))))))))))) (Zij Z9 Zcw))
  repeat (first | exact trivial | refine ⟨.inl rfl, ?_⟩ | refine ⟨.inr ⟨rfl, rfl⟩, ?_⟩ | refine ⟨.inr ⟨congrArg (Value.int .i64) (by first | omega | (dsimp only; omega)), rfl⟩, ?_⟩)
  refine Zl (vx := Iv (i : Nat)) (vy := Iv (l.length : Nat)) rfl rfl (.bool false) rfl rfl (Zct (by omega)) ?_
  refine Za (Zb (Zt rfl (Zbp (Zau (Za2 (Za1 rfl (Zb (Ze (Zg (Zm (p := pt 2 0) (v := mxV ([Iv ((l.getD at_ default).1.node), Iv ((l.getD at_ default).1.log), Iv ((l.getD at_ default).1.commit), slv (at_ + 13) 0 ((l.getD at_ default).1.items.length) ((l.getD at_ default).2)])) (Zaa (p := pt 1 0) (v := mxV ([Iv ((l.getD at_ default).1.node), Iv ((l.getD at_ default).1.log), Iv ((l.getD at_ default).1.commit), slv (at_ + 13) 0 ((l.getD at_ default).1.items.length) ((l.getD at_ default).2)])) (b := 1) (blk := (mxW 4 ([Iv ((l.getD at_ default).1.node), Iv ((l.getD at_ default).1.log), Iv ((l.getD at_ default).1.commit), slv (at_ + 13) 0 ((l.getD at_ default).1.items.length) ((l.getD at_ default).2)]))) (H' := ([(Z9.B 13 l), (mxW 4 ([Iv ((l.getD at_ default).1.node), Iv ((l.getD at_ default).1.log), Iv ((l.getD at_ default).1.commit), slv (at_ + 13) 0 ((l.getD at_ default).1.items.length) ((l.getD at_ default).2)])), (mxW 4 ([Iv ((l.getD at_ default).1.node), Iv ((l.getD at_ default).1.log), Iv ((l.getD at_ default).1.commit), slv (at_ + 13) 0 ((l.getD at_ default).1.items.length) ((l.getD at_ default).2)])), hole, hole, hole, hole, hole, hole, hole, hole, hole, hole] ++ (l.map Z9.blk))) (Za (Zb (Zr ?_))))))))))))))
  rw [show Zv l = at_ from by rw [hA]; unfold Zv; congr 1; omega]
  exact Zow (v := mxV ([Iv ((l.getD at_ default).1.node), Iv ((l.getD at_ default).1.log), Iv ((l.getD at_ default).1.commit), slv (at_ + 13) 0 ((l.getD at_ default).1.items.length) ((l.getD at_ default).2)])) rfl ⟨rfl, fun i hi => Ze8 Z9 rfl hi, [], rfl, by decide, rfl, Zbh (by kernel_rfl) ⟨⟨rfl, rfl⟩, ⟨rfl, rfl⟩, ⟨rfl, rfl⟩, Z3d hat (hS _ hat).1.1, trivial⟩⟩
theorem Zyo (l : List (TailT × Nat)) (c : Nat) (hc : l.length ≤ c) (hb : c ≤ 9223372036854775807) (hS : ∀ i, i < l.length → okT (l.getD i default)) (hB : ∀ i, i < l.length → (l.getD i default).1.items.length ≤ 60) (h2 : l.length ≤ 20) : Z4 Tryd.prog G 28 [slv 0 0 l.length c, .func (.func 29) #[] #[]] (Z9.S 0 l) (slv (l.length + 1) 0 l.length l.length) ((Z9.S 0 l) ++ [rwB Zd1 (Za5 l)]) := by
  refine Z4.deep (fn := Tryd.f28) (nt := 22) (N := [rwB Zd1 (Za5 l)]) 12 rfl rfl rfl rfl Zcw ⟨⟨rfl, rfl, rfl, by first | omega | exact Nat.le_refl _, by first | omega | exact Nat.le_refl _⟩, (by first | rfl | exact ⟨by kernel_rfl, by kernel_rfl⟩), trivial⟩ rfl rfl ?_
  refine Zia (H' := ([(Z9.B 13 l), hole, hole, hole, hole, hole, hole, hole, hole, hole, hole, hole, hole] ++ (l.map Z9.blk))) rfl ?_
  refine Ze (Zg (Zc (.slice none 0 0) (Za (Zb (Ze (Zg (Zc (.slice none 0 0) (Za (Zb (Ze (Ze ?_)))))))))))
  refine Zb6 (Zbe.nilTmp (i := 5) (b := 1) true 1 rfl (by decide) rfl) ?_
  refine Zg (Zd (slv 0 0 l.length c) (Zba (p := slv 0 0 l.length c) (v := Iv (l.length : Nat)) (Zd (Iv 0) (Za (Zb (Z7 ?_))))))
  refine Zb2 (fun x : Nat × (List Int) => match x with | (i, acc) => [slv 0 0 l.length c, .func (.func 29) #[] #[], dead, dead, .slice none 0 0, slv 1 0 i i, dead, dead, slv 0 0 l.length c, Iv (l.length : Nat), Iv (i : Nat)]) (fun x : Nat × (List Int) => match x with | (i, acc) => ([(Z9.B 13 l), rwB Zd1 acc, hole, hole, hole, hole, hole, hole, hole, hole, hole, hole, hole] ++ (l.map Z9.blk))) (fun x : Nat × (List Int) => match x with | (i, acc) => acc = Za5 (l.take i) ∧ i ≤ l.length ∧ acc.length = i) (fun x : Nat × (List Int) => match x with | (i, acc) => l.length - i) (0, []) ⟨rfl, by omega, rfl⟩ ?_ ?_
  · refine Zbe.drop [] rfl (fun b => rfl) ?_ (fun x _ => Zqw x)
    repeat (first | exact trivial | refine ⟨.inl rfl, ?_⟩ | refine ⟨.inr ⟨rfl, rfl⟩, ?_⟩ | refine ⟨.inr ⟨congrArg (Value.int .i64) (by first | omega | (dsimp only; omega)), rfl⟩, ?_⟩)
  rintro ⟨i, acc⟩ ⟨hA, hi, hlen⟩
  dsimp only at *
  refine Ze (Zg ?_)
  by_cases h1 : (i : Nat) < (l.length : Nat)
  refine Zl (vx := Iv (i : Nat)) (vy := Iv (l.length : Nat)) rfl rfl (.bool true) rfl rfl (Zc0 (by omega)) ?_
  refine Za (Zb (Ze (Zy rfl (Zx (Zb (Ze (Z7 (Ze (Zg ?_)))))))))
  refine Zb1 (b := 0) (o := 0) (j := i * 4) (m := l.length) (c := c) (sz := 4) (i := (i : Nat)) (k := .i64) rfl rfl rfl rfl rfl (by omega) (by omega) (by omega) ?_
  refine Zaj (p := pt 0 (i * 4)) (v := mxV ([Iv ((l.getD i default).1.node), Iv ((l.getD i default).1.log), Iv ((l.getD i default).1.commit), slv (i + 13) 0 ((l.getD i default).1.items.length) ((l.getD i default).2)])) rfl rfl rfl (Zja Z9 (l := l) (i := i) (K := 13) (m := 4) rfl rfl rfl (by omega) (by omega)) ?_
  refine Zgy (b := (mxW 4 ([Iv 0, Iv 0, Iv 0, .slice none 0 0]))) (nid := 2) (H' := ([(Z9.B 13 l), rwB Zd1 acc, (mxW 4 ([Iv 0, Iv 0, Iv 0, .slice none 0 0])), hole, hole, hole, hole, hole, hole, hole, hole, hole, hole] ++ (l.map Z9.blk))) rfl rfl (by kernel_rfl) (by kernel_rfl) ?_
  refine Zaa (p := pt 2 0) (v := mxV ([Iv ((l.getD i default).1.node), Iv ((l.getD i default).1.log), Iv ((l.getD i default).1.commit), slv (i + 13) 0 ((l.getD i default).1.items.length) ((l.getD i default).2)])) (b := 2) (blk := (mxW 4 ([Iv ((l.getD i default).1.node), Iv ((l.getD i default).1.log), Iv ((l.getD i default).1.commit), slv (i + 13) 0 ((l.getD i default).1.items.length) ((l.getD i default).2)]))) (H' := ([(Z9.B 13 l), rwB Zd1 acc, (mxW 4 ([Iv ((l.getD i default).1.node), Iv ((l.getD i default).1.log), Iv ((l.getD i default).1.commit), slv (i + 13) 0 ((l.getD i default).1.items.length) ((l.getD i default).2)])), hole, hole, hole, hole, hole, hole, hole, hole, hole, hole] ++ (l.map Z9.blk))) (Za (Zb ?_))
  have hok := hS i (by omega)
  obtain ⟨⟨ho1, ho2⟩, ⟨ho3, ho4⟩, ⟨ho5, ho6⟩, ho7, ho8⟩ := hok
  have hbi := hB i (by omega)
  refine Zg (Zd (slv 1 0 i i) (Zd (.func (.func 29) #[] #[]) (Zm (p := pt 2 0) (v := mxV ([Iv ((l.getD i default).1.node), Iv ((l.getD i default).1.log), Iv ((l.getD i default).1.commit), slv (i + 13) 0 ((l.getD i default).1.items.length) ((l.getD i default).2)])) ?_)))
  refine Z0 (e := [some ((i + 13), 0)]) (nid := 0) (Zwm (G := G) ((l.getD i default).1) ((l.getD i default).1.items.length) ((l.getD i default).2) (rfl : _ = _) (by omega) (by omega)) (vals := [mxV ([Iv ((l.getD i default).1.node), Iv ((l.getD i default).1.log), Iv ((l.getD i default).1.commit), slv (i + 13) 0 ((l.getD i default).1.items.length) ((l.getD i default).2)])]) (v := Iv (((l.getD i default).1).commit)) (H' := ([(Z9.B 13 l), rwB Zd1 acc, (mxW 4 ([Iv ((l.getD i default).1.node), Iv ((l.getD i default).1.log), Iv ((l.getD i default).1.commit), slv (i + 13) 0 ((l.getD i default).1.items.length) ((l.getD i default).2)])), hole, hole, hole, hole, hole, hole, hole, hole, hole, hole] ++ (l.map Z9.blk))) rfl rfl rfl rfl rfl rfl rfl ⟨⟨(Zbh (by kernel_rfl) ⟨⟨rfl, rfl⟩, ⟨rfl, rfl⟩, ⟨rfl, rfl⟩, ⟨rfl, rfl, rfl, by first | omega | exact Nat.le_refl _, by first | omega | exact Nat.le_refl _⟩, trivial⟩), trivial⟩, ⟨(Zcn (Ze8 Z9 (l := l) (i := i) rfl (by omega)) rfl (by show 0 + (Zh.row _).length ≤ (Zh.row _).length; omega) (Zlj Zh _)), trivial⟩, rfl, rfl, rfl⟩ rfl (by kernel_rfl) ?_
  refine Zen (vs := [(0, Iv (((l.getD i default).1).commit))]) (v := slv 3 0 1 1) (blk := rwB Zd1 [(((l.getD i default).1).commit)]) (nid := 3) (H' := ([(Z9.B 13 l), rwB Zd1 acc, (mxW 4 ([Iv ((l.getD i default).1.node), Iv ((l.getD i default).1.log), Iv ((l.getD i default).1.commit), slv (i + 13) 0 ((l.getD i default).1.items.length) ((l.getD i default).2)])), rwB Zd1 [(((l.getD i default).1).commit)], hole, hole, hole, hole, hole, hole, hole, hole, hole] ++ (l.map Z9.blk))) rfl rfl rfl (by kernel_rfl) (by kernel_rfl) ?_
  have hl1 : (acc ++ [(((l.getD i default).1).commit)]).length = i + 1 := by have := hlen; have := (rfl : _ = 1); first | (rw [List.length_append]; omega) | (rw [List.length_append, List.length_take]; omega) | (simp; omega) | simp
  refine Zxg (p := slv 1 0 i i) (q := slv 3 0 1 1) (v := slv 1 0 (i + 1) (i + 1)) (b := 1) (blk := rwB Zd1 (acc ++ [(((l.getD i default).1).commit)])) (H' := ([(Z9.B 13 l), rwB Zd1 (acc ++ [(((l.getD i default).1).commit)]), (mxW 4 ([Iv ((l.getD i default).1.node), Iv ((l.getD i default).1.log), Iv ((l.getD i default).1.commit), slv (i + 13) 0 ((l.getD i default).1.items.length) ((l.getD i default).2)])), rwB Zd1 [(((l.getD i default).1).commit)], hole, hole, hole, hole, hole, hole, hole, hole, hole] ++ (l.map Z9.blk))) rfl rfl rfl (.inl ⟨_, rfl⟩) rfl rfl (Zh6 Zd1 (by_ := 8) (k := 1) (n' := i + 1) (ms := [(((l.getD i default).1).commit)]) (fun _ => rfl) rfl rfl (by kernel_rfl) rfl rfl (by have := hlen; omega) (by omega) (by decide) (by omega)) (Zii (Zp (Zik Z9 Zcw (by decide)) (Zp (.inl rfl) (Zp (.inr (by kernel_rfl)) (Zp (.inl rfl) (Zp (.inl rfl) (Zp (.inl rfl) (Zp (.inl rfl) (Zp (.inl rfl) (Zp (.inl rfl) (Zp (.inl rfl) (Zp (.inl rfl) (Zp (.inl rfl) (Zp (.inl rfl) Zfz))))))))))))) (Zij Z9 Zcw)) rfl (by kernel_rfl) ?_
  refine Zc (slv 1 0 (i + 1) (i + 1)) (Za (Z8 (Zb (Zg ?_))))
  refine Zl (vx := Iv (i : Nat)) (vy := Iv 1) rfl rfl (Iv ((i : Nat) + 1)) rfl rfl (Zan (by omega) (by omega) (by omega)) ?_
  refine Zd (Iv ((i : Nat) + 1)) (Za ?_)
  refine Zak ⟨((i + 1), (acc ++ [(((l.getD i default).1).commit)])), ⟨Zqk hA (by omega), by omega, by rw [List.length_append, hlen]; rfl⟩, by show l.length - (i + 1) < l.length - i; omega, ?_⟩
  refine Zbe.drop [2, 3] rfl (Zjm rfl rfl) ?_ (Zii (Zp (Zik Z9 Zcw (by decide)) (Zp (.inl rfl) (Zp (.inl rfl) (Zp (.inl rfl) (Zp (.inl rfl) (Zp (.inl rfl) (Zp (.inl rfl) (Zp (.inl rfl) (Zp (.inl rfl) (Zp (.inl rfl) (Zp (.inl rfl) (Zp (.inl rfl) (Zp (.inl rfl) Zfz))))))))))))) (Zij Z9 Zcw))
  repeat (first | exact trivial | refine ⟨.inl rfl, ?_⟩ | refine ⟨.inr ⟨rfl, rfl⟩, ?_⟩ | refine ⟨.inr ⟨congrArg (Value.int .i64) (by first | omega | (dsimp only; omega)), rfl⟩, ?_⟩)
  refine Zl (vx := Iv (i : Nat)) (vy := Iv (l.length : Nat)) rfl rfl (.bool false) rfl rfl (Zct (by omega)) ?_
  refine Za (Zb (Ze (Zt rfl (Zbp (Zau (Za2 (Za1 rfl (Zb (Ze (Zg (Zd (slv 1 0 i i) (Zc (slv 1 0 i i) (Za (Zb (Zr ?_)))))))))))))))
  rw [show Za5 l = acc from by rw [hA, List.take_of_length_le (by omega)]]
  exact Zow (v := slv 1 0 i i) rfl ⟨rfl, fun i hi => Ze8 Z9 rfl hi, [1], rfl, by decide, rfl, (by obtain rfl : i = l.length := (by omega); exact Zkq (j := 0) (ks := [1]) rfl (Nat.le_refl _))⟩
end Go.Flat
