/- Walks. -/
import Derived.Test.YtlnggiomppkjmaaDoorA1
set_option linter.unusedVariables false
set_option linter.unusedSimpArgs false
set_option maxRecDepth 20000
namespace Go.Flat
open Go.Proofs
variable {G : Glob}
theorem Zjo {α : Type} (c : Cod α) (l : List α) : ((c.row l).drop 0).take (c.row l).length = c.row l := by rw [List.drop_zero, List.take_length]
def Zv : Dcod (TailT × Nat) := { enc := fun x b => [.int .i64 x.1.node, .int .i64 x.1.log, .int .i64 x.1.commit, slv b 0 x.1.items.length x.2], n := 4, len := fun _ _ => by kernel_rfl, pos := by decide, blk := fun x => rwR Zi x.1.items }
theorem Zaz : Zv.OK := by
 refine ⟨?_, ?_, fun _ => rfl, fun _ => rfl, fun _ => by show 0 < 110; decide, fun _ => rfl⟩
 ·intro e x b b' h
  show (([Iv x.1.node, Iv x.1.log, Iv x.1.commit, slv b 0 x.1.items.length x.2]) : List Value).map (Ze6 e) = [Iv x.1.node, Iv x.1.log, Iv x.1.commit, slv b' 0 x.1.items.length x.2]
  simp only [List.map_append, List.map_cons, List.map_nil, Zri h]; rfl
 ·intro p x b h
  show (([Iv x.1.node, Iv x.1.log, Iv x.1.commit, slv b 0 x.1.items.length x.2]) : List Value).all (Zan p) = true
  simp only [List.all_append, List.all_cons, List.all_nil, Bool.and_true, Bool.true_and]
  simp only [Zan, Zcx, slv, h, Bool.and_true, Bool.true_and]
def okT (x : TailT × Nat) : Prop := (x.1.items.length ≤ x.2 ∧ x.2 ≤ 9223372036854775807) ∧ (-9223372036854775808 ≤ x.1.node ∧ x.1.node ≤ 9223372036854775807) ∧ (-9223372036854775808 ≤ x.1.log ∧ x.1.log ≤ 9223372036854775807) ∧ -9223372036854775808 ≤ x.1.commit ∧ x.1.commit ≤ 9223372036854775807
def Zfq (l : List (TailT × Nat)) : Bool := decide (20 < l.length) || l.any fun x => Zkv x.1.items
theorem Zvt {l : List (TailT × Nat)} (h : 20 < l.length) : Zfq l = true := by unfold Zfq; rw [decide_eq_true h]; rfl
theorem Zvu {l : List (TailT × Nat)} {i : Nat} (h : i < l.length) (h1 : Zkv (l.getD i default).1.items = true) : Zfq l = true := by
 unfold Zfq
 rw [Bool.or_eq_true, List.any_eq_true]
 refine .inr ⟨l.getD i default, ?_, h1⟩
 rw [List.getD_eq_getElem?_getD, List.getElem?_eq_getElem h]; exact List.getElem_mem h
theorem Z1j {l : List (TailT × Nat)} (h : ¬ 20 < l.length) (h1 : ∀ i, i < l.length → Zkv (l.getD i default).1.items = false) : Zfq l = false := by
 unfold Zfq
 rw [decide_eq_false h, Bool.false_or, List.any_eq_false]
 intro x hx
 obtain ⟨i, hi, rfl⟩ := List.getElem_of_mem hx
 have := h1 i hi
 rw [List.getD_eq_getElem?_getD, List.getElem?_eq_getElem hi] at this
 simpa using this
theorem Zyr {l : List (TailT × Nat)} (h : Zfq l = false) : l.length ≤ 20 ∧ ∀ i, i < l.length → (l.getD i default).1.items.length ≤ 60 := by
 unfold Zfq at h
 rw [Bool.or_eq_false_iff, List.any_eq_false] at h
 refine ⟨by have := of_decide_eq_false h.1; omega, fun i hi => ?_⟩
 have := h.2 l[i] (List.getElem_mem hi)
 rw [List.getD_eq_getElem?_getD, List.getElem?_eq_getElem hi]
 unfold Zkv at this
 simp at this ⊢
 omega
def Zej (l : List (TailT × Nat)) : Nat → Nat
  | 0 => 0
  | i + 1 => if 0 < Zkz (l.getD (i + 1) default).1 (l.getD (Zej l i) default).1 then i + 1 else Zej l i
theorem Zry (l : List (TailT × Nat)) : ∀ i, Zej l i ≤ i
 | 0 => Nat.le_refl _
 | i + 1 => by
  have := Zry l i
  unfold Zej; split <;> omega
def Zw (l : List (TailT × Nat)) : Nat := Zej l (l.length - 1)
def Za0 (l : List (TailT × Nat)) : List Int := l.map fun x => x.1.commit
theorem Zsb (l : List (TailT × Nat)) : (Za0 l).length = l.length := by simp [Za0]
theorem Zqz {l : List (TailT × Nat)} {i : Nat} {acc : List Int} (h : acc = Za0 (l.take i)) (hi : i < l.length) : acc ++ [(l.getD i default).1.commit] = Za0 (l.take (i + 1)) := by
 subst h
 unfold Za0
 rw [List.take_succ_eq_append_getElem hi, List.map_append, List.getD_eq_getElem?_getD, List.getElem?_eq_getElem hi]; rfl
theorem Zvr {l : List (TailT × Nat)} {i at_ : Nat} (h : at_ = Zej l (i - 1)) (h1 : 1 ≤ i) (hc : 0 < Zkz (l.getD i default).1 (l.getD at_ default).1) : i = Zej l (i + 1 - 1) := by
 subst h
 obtain ⟨j, rfl⟩ : ∃ j, i = j + 1 := ⟨i - 1, by omega⟩
 replace hc : 0 < Zkz (l.getD (j + 1) default).1 (l.getD (Zej l j) default).1 := hc
 show j + 1 = Zej l (j + 1)
 rw [Zej, if_pos hc]
theorem Zvs {l : List (TailT × Nat)} {i at_ : Nat} (h : at_ = Zej l (i - 1)) (h1 : 1 ≤ i) (hc : ¬ 0 < Zkz (l.getD i default).1 (l.getD at_ default).1) : at_ = Zej l (i + 1 - 1) := by
 obtain ⟨j, rfl⟩ : ∃ j, i = j + 1 := ⟨i - 1, by omega⟩
 subst h
 replace hc : ¬ 0 < Zkz (l.getD (j + 1) default).1 (l.getD (Zej l j) default).1 := hc
 show Zej l j = Zej l (j + 1)
 rw [Zej, if_neg hc]
theorem Zny {l : List (TailT × Nat)} (h : 0 < l.length) : Zw l < l.length := by
 have := Zry l (l.length - 1)
 unfold Zw; omega
theorem Z09 (l : List (TailT × Nat)) (c : Nat) (hc : l.length ≤ c) (hb : c ≤ 9223372036854775807) (hS : ∀ i, i < l.length → okT (l.getD i default)) : Z6 Tryd.prog G 8 [slv 0 0 l.length c] (Zv.S 0 l) (.bool (Zfq l)) ((Zv.S 0 l) ++ []) := by
  refine Z6.deep (fn := Tryd.f8) (nt := 19) (N := []) 12 rfl rfl rfl rfl Zaz ⟨⟨rfl, rfl, rfl, by first | omega | exact Nat.le_refl _, by first | omega | exact Nat.le_refl _⟩, trivial⟩ rfl rfl ?_
  refine Zgz (H' := ([(Zv.B 13 l), hole, hole, hole, hole, hole, hole, hole, hole, hole, hole, hole, hole] ++ (l.map Zv.blk))) rfl ?_
  refine Zf (Zg (Zb (.bool false) (Za (Zc (Zf (Zf (Zg (Zd (slv 0 0 l.length c) (Zaw (p := slv 0 0 l.length c) (v := Iv (l.length : Nat)) ?_)))))))))
  by_cases h1 : 20 < (l.length : Nat)
  refine Zl (vx := Iv (l.length : Nat)) (vy := Iv 20) rfl rfl (.bool true) rfl rfl (Zfs (by omega)) ?_
  refine Za (Zc (Zy rfl (Zf (Zg (Zb (.bool true) (Za (Zc (Zr (Z2 ?_)))))))))
  rw [show Zfq l = true from by first | exact Zvt (by omega) | exact Zvu (i := i) (by omega) (by assumption)]
  exact Zey (v := .bool true) rfl ⟨rfl, fun i hi => Zbw Zv rfl hi, [], rfl, by decide, rfl, rfl⟩
  refine Zl (vx := Iv (l.length : Nat)) (vy := Iv 20) rfl rfl (.bool false) rfl rfl (Zfr (by omega)) ?_
  refine Za (Zc (Zu rfl (Zz (Zc (Zf (Zf (Zg (Zb (Iv 0) (Za (Zc (Z8 ?_)))))))))))
  refine Zbt (fun i : Nat => [slv 0 0 l.length c, dead, dead, Iv (i : Nat), slv 0 0 l.length c, Iv (l.length : Nat), .bool false]) (fun i : Nat => ([(Zv.B 13 l), hole, hole, hole, hole, hole, hole, hole, hole, hole, hole, hole, hole] ++ (l.map Zv.blk))) (fun i : Nat => (∀ j, j < i → Zkv (l.getD j default).1.items = false) ∧ i ≤ l.length) (fun i : Nat => l.length - i) 0 ⟨fun _ h => absurd h (Nat.not_lt_zero _), by omega⟩ ?_ ?_
  · refine Za7.drop [] rfl (fun b => rfl) ?_ (fun x _ => Zln x)
    repeat (first | exact trivial | refine ⟨.inl rfl, ?_⟩ | refine ⟨.inr ⟨rfl, rfl⟩, ?_⟩ | refine ⟨.inr ⟨congrArg (Value.int .i64) (by first | omega | (dsimp only; omega)), rfl⟩, ?_⟩)
  rintro i ⟨hA, hi⟩
  refine Zf (Zf (Zg (Zd (Iv (i : Nat)) (Zd (slv 0 0 l.length c) (Zaw (p := slv 0 0 l.length c) (v := Iv (l.length : Nat)) ?_)))))
  by_cases h2 : (i : Nat) < (l.length : Nat)
  refine Zl (vx := Iv (i : Nat)) (vy := Iv (l.length : Nat)) rfl rfl (.bool true) rfl rfl (Zck (by omega)) ?_
  refine Za (Zc (Zy rfl (Zz (Zc (Zf (Z8 (Zf ?_)))))))
  have hok := hS i (by omega)
  obtain ⟨⟨ho1, ho2⟩, ⟨ho3, ho4⟩, ⟨ho5, ho6⟩, ho7, ho8⟩ := hok
  refine Zg (Zd (slv 0 0 l.length c) (Zd (Iv (i : Nat)) ?_))
  refine Zbo (b := 0) (o := 0) (j := i * 4) (m := l.length) (c := c) (sz := 4) (i := (i : Nat)) (k := .i64) rfl rfl rfl rfl rfl (by omega) (by omega) (by omega) ?_
  refine Zbl (b := 0) (o := i * 4) (n := 3) (o' := i * 4 + 3) rfl rfl rfl rfl (by omega) ?_
  refine Zal (p := pt 0 (i * 4 + 3)) (v := slv (i + 13) 0 ((l.getD i default).1.items.length) ((l.getD i default).2)) rfl rfl rfl (Zxk Zv (l := l) (i := i) (K := 13) (k := 3) (n := 4) rfl rfl rfl (by omega) (by omega) (by decide) (by kernel_rfl) rfl) ?_
  refine Z5 (e := [some ((i + 13), 0)]) (nid := 0) (Zxz (G := G) ((l.getD i default).1.items) ((l.getD i default).1.items.length) ((l.getD i default).2) (rfl : _ = _) (by omega) (by omega)) (vals := [slv (i + 13) 0 ((l.getD i default).1.items.length) ((l.getD i default).2)]) (v := .bool (Zkv ((l.getD i default).1.items))) (H' := ([(Zv.B 13 l), hole, hole, hole, hole, hole, hole, hole, hole, hole, hole, hole, hole] ++ (l.map Zv.blk))) rfl rfl rfl rfl rfl rfl rfl ⟨⟨⟨rfl, rfl, rfl, by first | omega | exact Nat.le_refl _, by first | omega | exact Nat.le_refl _⟩, trivial⟩, ⟨(Zco (Zbw Zv (l := l) (i := i) rfl (by omega)) rfl (by show 0 + (Zi.row _).length ≤ (Zi.row _).length; omega) (Zjo Zi _)), trivial⟩, rfl, rfl, rfl⟩ rfl (by kernel_rfl) ?_
  refine Za (Zc ?_)
  rcases Bool.eq_false_or_eq_true (Zkv ((l.getD i default).1.items)) with h3 | h3
  refine Zy (congrArg Value.bool h3) (Zf (Zg (Zb (.bool true) (Za (Zc (Zr (Zar (Z2 (Zcy (Zar (Z2 ?_)))))))))))
  rw [show Zfq l = true from by first | exact Zvt (by omega) | exact Zvu (i := i) (by omega) (by assumption)]
  exact Zey (v := .bool true) rfl ⟨rfl, fun i hi => Zbw Zv rfl hi, [], rfl, by decide, rfl, rfl⟩
  refine Zu (congrArg Value.bool h3) (Zz (Z7 (Zc (Zg (Zd (Iv (i : Nat)) ?_)))))
  refine Zl (vx := Iv (i : Nat)) (vy := Iv 1) rfl rfl (Iv ((i : Nat) + 1)) rfl rfl (Zak (by omega) (by omega) (by omega)) ?_
  refine Zb (Iv ((i : Nat) + 1)) (Za ?_)
  refine Zag ⟨(i + 1), ⟨fun j hj => by rcases Nat.lt_or_ge j i with h | h; exact hA j h; obtain rfl : j = i := (by omega); assumption, by omega⟩, by show l.length - (i + 1) < l.length - i; omega, ?_⟩
  refine Za7.drop [] rfl (Ze4 rfl rfl) ?_ (Zet (Zj (Zev Zv Zaz (by decide)) (Zj (.inl rfl) (Zj (.inl rfl) (Zj (.inl rfl) (Zj (.inl rfl) (Zj (.inl rfl) (Zj (.inl rfl) (Zj (.inl rfl) (Zj (.inl rfl) (Zj (.inl rfl) (Zj (.inl rfl) (Zj (.inl rfl) (Zj (.inl rfl) Zds))))))))))))) (Zeu Zv Zaz))
  repeat (first | exact trivial | refine ⟨.inl rfl, ?_⟩ | refine ⟨.inr ⟨rfl, rfl⟩, ?_⟩ | refine ⟨.inr ⟨congrArg (Value.int .i64) (by first | omega | (dsimp only; omega)), rfl⟩, ?_⟩)
  refine Zl (vx := Iv (i : Nat)) (vy := Iv (l.length : Nat)) rfl rfl (.bool false) rfl rfl (Zcd (by omega)) ?_
  refine Za (Zc (Zu rfl (Zbm (Zaq (Zax (Zav rfl (Zc (Zf (Zg (Zb (.bool false) (Za (Zc (Zr ?_)))))))))))))
  rw [show Zfq l = false from Z1j (by omega) (fun j hj => hA j (by omega))]
  exact Zey (v := .bool false) rfl ⟨rfl, fun i hi => Zbw Zv rfl hi, [], rfl, by decide, rfl, rfl⟩
theorem Zt1 (l : List (TailT × Nat)) (c : Nat) (hc : l.length ≤ c) (hb : c ≤ 9223372036854775807) (hS : ∀ i, i < l.length → okT (l.getD i default)) (hB : ∀ i, i < l.length → (l.getD i default).1.items.length ≤ 60) (h0 : 0 < l.length) : Z6 Tryd.prog G 23 [slv 0 0 l.length c, .func (.func 24) #[] #[]] (Zv.S 0 l) (mxV (Zv.enc (l.getD (Zw l) default) (Zw l + 1))) ((Zv.S 0 l) ++ []) := by
  refine Z6.deep (fn := Tryd.f23) (nt := 33) (N := []) 12 rfl rfl rfl rfl Zaz ⟨⟨rfl, rfl, rfl, by first | omega | exact Nat.le_refl _, by first | omega | exact Nat.le_refl _⟩, (by first | rfl | exact ⟨by kernel_rfl, by kernel_rfl⟩), trivial⟩ rfl rfl ?_
  refine Zgz (H' := ([(Zv.B 13 l), hole, hole, hole, hole, hole, hole, hole, hole, hole, hole, hole, hole] ++ (l.map Zv.blk))) rfl ?_
  refine Zf (Zg ?_)
  refine Zfh (b := (mxW 4 ([Iv 0, Iv 0, Iv 0, .slice none 0 0]))) (nid := 1) (H' := ([(Zv.B 13 l), (mxW 4 ([Iv 0, Iv 0, Iv 0, .slice none 0 0])), hole, hole, hole, hole, hole, hole, hole, hole, hole, hole, hole] ++ (l.map Zv.blk))) rfl rfl (by kernel_rfl) (by kernel_rfl) ?_
  refine Za (Zc (Zf (Zf (Zg (Zd (slv 0 0 l.length c) (Zaw (p := slv 0 0 l.length c) (v := Iv (l.length : Nat)) ?_))))))
  refine Zl (vx := Iv (l.length : Nat)) (vy := Iv 1) rfl rfl (.bool false) rfl rfl (Zcd (by omega)) ?_
  refine Za (Zc (Zu rfl (Zz (Zc (Zf (Zg (Zd (slv 0 0 l.length c) ?_)))))))
  refine Zbo (b := 0) (o := 0) (j := 0) (m := l.length) (c := c) (sz := 4) (i := 0) (k := .i64) rfl rfl rfl rfl rfl (by omega) (by omega) (by omega) ?_
  refine Zal (p := pt 0 0) (v := mxV ([Iv ((l.getD 0 default).1.node), Iv ((l.getD 0 default).1.log), Iv ((l.getD 0 default).1.commit), slv (0 + 13) 0 ((l.getD 0 default).1.items.length) ((l.getD 0 default).2)])) rfl rfl rfl (Zh8 Zv (l := l) (i := 0) (K := 13) (m := 4) rfl rfl rfl (by omega) (by omega)) ?_
  refine Zfh (b := (mxW 4 ([Iv 0, Iv 0, Iv 0, .slice none 0 0]))) (nid := 2) (H' := ([(Zv.B 13 l), (mxW 4 ([Iv 0, Iv 0, Iv 0, .slice none 0 0])), (mxW 4 ([Iv 0, Iv 0, Iv 0, .slice none 0 0])), hole, hole, hole, hole, hole, hole, hole, hole, hole, hole] ++ (l.map Zv.blk))) rfl rfl (by kernel_rfl) (by kernel_rfl) ?_
  refine Zab (p := pt 2 0) (v := mxV ([Iv ((l.getD 0 default).1.node), Iv ((l.getD 0 default).1.log), Iv ((l.getD 0 default).1.commit), slv (0 + 13) 0 ((l.getD 0 default).1.items.length) ((l.getD 0 default).2)])) (b := 2) (blk := (mxW 4 ([Iv ((l.getD 0 default).1.node), Iv ((l.getD 0 default).1.log), Iv ((l.getD 0 default).1.commit), slv (0 + 13) 0 ((l.getD 0 default).1.items.length) ((l.getD 0 default).2)]))) (H' := ([(Zv.B 13 l), (mxW 4 ([Iv 0, Iv 0, Iv 0, .slice none 0 0])), (mxW 4 ([Iv ((l.getD 0 default).1.node), Iv ((l.getD 0 default).1.log), Iv ((l.getD 0 default).1.commit), slv (0 + 13) 0 ((l.getD 0 default).1.items.length) ((l.getD 0 default).2)])), hole, hole, hole, hole, hole, hole, hole, hole, hole, hole] ++ (l.map Zv.blk))) (Za (Zc (Zf (Zf (Zg (Zb (Iv 1) (Za (Zc (Z8 ?_)))))))))
  refine Zbt (fun x : Nat × Nat => match x with | (i, at_) => [slv 0 0 l.length c, .func (.func 24) #[] #[], dead, dead, pt 1 0, pt 2 0, Iv (i : Nat), slv 0 0 l.length c, Iv (l.length : Nat), .bool false, dead, slv 0 0 l.length c, pt 0 0, mxV ([Iv ((l.getD 0 default).1.node), Iv ((l.getD 0 default).1.log), Iv ((l.getD 0 default).1.commit), slv (0 + 13) 0 ((l.getD 0 default).1.items.length) ((l.getD 0 default).2)])]) (fun x : Nat × Nat => match x with | (i, at_) => ([(Zv.B 13 l), (mxW 4 ([Iv 0, Iv 0, Iv 0, .slice none 0 0])), (mxW 4 ([Iv ((l.getD at_ default).1.node), Iv ((l.getD at_ default).1.log), Iv ((l.getD at_ default).1.commit), slv (at_ + 13) 0 ((l.getD at_ default).1.items.length) ((l.getD at_ default).2)])), hole, hole, hole, hole, hole, hole, hole, hole, hole, hole] ++ (l.map Zv.blk))) (fun x : Nat × Nat => match x with | (i, at_) => at_ = Zej l (i - 1) ∧ 1 ≤ i ∧ i ≤ l.length ∧ at_ < l.length) (fun x : Nat × Nat => match x with | (i, at_) => l.length - i) (1, 0) ⟨rfl, by omega, by omega, by omega⟩ ?_ ?_
  · refine Za7.drop [] rfl (fun b => rfl) ?_ (fun x _ => Zln x)
    repeat (first | exact trivial | refine ⟨.inl rfl, ?_⟩ | refine ⟨.inr ⟨rfl, rfl⟩, ?_⟩ | refine ⟨.inr ⟨congrArg (Value.int .i64) (by first | omega | (dsimp only; omega)), rfl⟩, ?_⟩)
  rintro ⟨i, at_⟩ ⟨hA, h1, hi, hat⟩
  dsimp only at *
  refine Zf (Zf (Zg (Zd (Iv (i : Nat)) (Zd (slv 0 0 l.length c) (Zaw (p := slv 0 0 l.length c) (v := Iv (l.length : Nat)) ?_)))))
  by_cases h1 : (i : Nat) < (l.length : Nat)
  refine Zl (vx := Iv (i : Nat)) (vy := Iv (l.length : Nat)) rfl rfl (.bool true) rfl rfl (Zck (by omega)) ?_
  refine Za (Zc (Zy rfl (Zz (Zc (Zf (Z8 (Zf ?_)))))))
  have hok := hS i (by omega)
  obtain ⟨⟨ho1, ho2⟩, ⟨ho3, ho4⟩, ⟨ho5, ho6⟩, ho7, ho8⟩ := hok
  have hok' := hS at_ (by omega)
  obtain ⟨⟨hp1, hp2⟩, ⟨hp3, hp4⟩, ⟨hp5, hp6⟩, hp7, hp8⟩ := hok'
  have hbi := hB i (by omega)
  have hba := hB at_ (by omega)
  refine Zgl (by kernel_rfl) ?_
  refine Zd (.func (.func 24) #[] #[]) (Zd (slv 0 0 l.length c) (Zd (Iv (i : Nat)) ?_))
  refine Zbo (b := 0) (o := 0) (j := i * 4) (m := l.length) (c := c) (sz := 4) (i := (i : Nat)) (k := .i64) rfl rfl rfl rfl rfl (by omega) (by omega) (by omega) ?_
  refine Zal (p := pt 0 (i * 4)) (v := mxV ([Iv ((l.getD i default).1.node), Iv ((l.getD i default).1.log), Iv ((l.getD i default).1.commit), slv (i + 13) 0 ((l.getD i default).1.items.length) ((l.getD i default).2)])) rfl rfl rfl (Zh8 Zv (l := l) (i := i) (K := 13) (m := 4) rfl rfl rfl (by omega) (by omega)) ?_
  refine Zn (p := pt 2 0) (v := mxV ([Iv ((l.getD at_ default).1.node), Iv ((l.getD at_ default).1.log), Iv ((l.getD at_ default).1.commit), slv (at_ + 13) 0 ((l.getD at_ default).1.items.length) ((l.getD at_ default).2)])) ?_
  refine Z5 (e := [some ((i + 13), 0), some ((at_ + 13), 0)]) (nid := 0) (Z1t (G := G) ((l.getD i default).1) ((l.getD i default).1.items.length) ((l.getD i default).2) (rfl : _ = _) (by omega) (by omega) ((l.getD at_ default).1) ((l.getD at_ default).1.items.length) ((l.getD at_ default).2) (rfl : _ = _) (by omega) (by omega)) (vals := [mxV ([Iv ((l.getD i default).1.node), Iv ((l.getD i default).1.log), Iv ((l.getD i default).1.commit), slv (i + 13) 0 ((l.getD i default).1.items.length) ((l.getD i default).2)]), mxV ([Iv ((l.getD at_ default).1.node), Iv ((l.getD at_ default).1.log), Iv ((l.getD at_ default).1.commit), slv (at_ + 13) 0 ((l.getD at_ default).1.items.length) ((l.getD at_ default).2)])]) (v := Iv (Zkz ((l.getD i default).1) ((l.getD at_ default).1))) (H' := ([(Zv.B 13 l), (mxW 4 ([Iv 0, Iv 0, Iv 0, .slice none 0 0])), (mxW 4 ([Iv ((l.getD at_ default).1.node), Iv ((l.getD at_ default).1.log), Iv ((l.getD at_ default).1.commit), slv (at_ + 13) 0 ((l.getD at_ default).1.items.length) ((l.getD at_ default).2)])), hole, hole, hole, hole, hole, hole, hole, hole, hole, hole] ++ (l.map Zv.blk))) rfl rfl rfl rfl rfl rfl rfl ⟨⟨(Zce (by kernel_rfl) ⟨⟨rfl, rfl⟩, ⟨rfl, rfl⟩, ⟨rfl, rfl⟩, ⟨rfl, rfl, rfl, by first | omega | exact Nat.le_refl _, by first | omega | exact Nat.le_refl _⟩, trivial⟩), (Zce (by kernel_rfl) ⟨⟨rfl, rfl⟩, ⟨rfl, rfl⟩, ⟨rfl, rfl⟩, ⟨rfl, rfl, rfl, by first | omega | exact Nat.le_refl _, by first | omega | exact Nat.le_refl _⟩, trivial⟩), trivial⟩, ⟨(Zco (Zbw Zv (l := l) (i := i) rfl (by omega)) rfl (by show 0 + (Zi.row _).length ≤ (Zi.row _).length; omega) (Zjo Zi _)), (Zco (Zbw Zv (l := l) (i := at_) rfl (by omega)) rfl (by show 0 + (Zi.row _).length ≤ (Zi.row _).length; omega) (Zjo Zi _)), trivial⟩, rfl, rfl, rfl⟩ rfl (by kernel_rfl) ?_
  by_cases h2 : 0 < (Zkz ((l.getD i default).1) ((l.getD at_ default).1))
  refine Zl (vx := Iv (Zkz ((l.getD i default).1) ((l.getD at_ default).1))) (vy := Iv 0) rfl rfl (.bool true) rfl rfl (Zfs (by omega)) ?_
  refine Zdc (Zb2 [[], [], [], [1, 2], [1, 2, 3], [], [0, 1, 2, 3, 4, 5], [0, 1, 2, 3, 4, 5, 6]] (by kernel_rfl) (by kernel_rfl)) ?_
  refine Zc (Zy rfl (Zg (Zd (slv 0 0 l.length c) (Zd (Iv (i : Nat)) ?_))))
  refine Zbo (b := 0) (o := 0) (j := i * 4) (m := l.length) (c := c) (sz := 4) (i := (i : Nat)) (k := .i64) rfl rfl rfl rfl rfl (by omega) (by omega) (by omega) ?_
  refine Zal (p := pt 0 (i * 4)) (v := mxV ([Iv ((l.getD i default).1.node), Iv ((l.getD i default).1.log), Iv ((l.getD i default).1.commit), slv (i + 13) 0 ((l.getD i default).1.items.length) ((l.getD i default).2)])) rfl rfl rfl (Zh8 Zv (l := l) (i := i) (K := 13) (m := 4) rfl rfl rfl (by omega) (by omega)) ?_
  refine Zab (p := pt 2 0) (v := mxV ([Iv ((l.getD i default).1.node), Iv ((l.getD i default).1.log), Iv ((l.getD i default).1.commit), slv (i + 13) 0 ((l.getD i default).1.items.length) ((l.getD i default).2)])) (b := 2) (blk := (mxW 4 ([Iv ((l.getD i default).1.node), Iv ((l.getD i default).1.log), Iv ((l.getD i default).1.commit), slv (i + 13) 0 ((l.getD i default).1.items.length) ((l.getD i default).2)]))) (H' := ([(Zv.B 13 l), (mxW 4 ([Iv 0, Iv 0, Iv 0, .slice none 0 0])), (mxW 4 ([Iv ((l.getD i default).1.node), Iv ((l.getD i default).1.log), Iv ((l.getD i default).1.commit), slv (i + 13) 0 ((l.getD i default).1.items.length) ((l.getD i default).2)])), hole, hole, hole, hole, hole, hole, hole, hole, hole, hole] ++ (l.map Zv.blk))) (Za (Z7 (Zc (Zg (Zd (Iv (i : Nat)) ?_)))))
  refine Zl (vx := Iv (i : Nat)) (vy := Iv 1) rfl rfl (Iv ((i : Nat) + 1)) rfl rfl (Zak (by omega) (by omega) (by omega)) ?_
  refine Zb (Iv ((i : Nat) + 1)) (Za ?_)
  refine Zag ⟨((i + 1), i), ⟨by first | exact Zvr hA (by omega) (by omega) | exact Zvs hA (by omega) (by omega), by omega, by omega, by omega⟩, by show l.length - (i + 1) < l.length - i; omega, ?_⟩
  refine Za7.drop [] rfl (Ze4 rfl rfl) ?_ (Zet (Zj (Zev Zv Zaz (by decide)) (Zj (.inr (by kernel_rfl)) (Zj (.inr (by kernel_rfl)) (Zj (.inl rfl) (Zj (.inl rfl) (Zj (.inl rfl) (Zj (.inl rfl) (Zj (.inl rfl) (Zj (.inl rfl) (Zj (.inl rfl) (Zj (.inl rfl) (Zj (.inl rfl) (Zj (.inl rfl) Zds))))))))))))) (Zeu Zv Zaz))
  repeat (first | exact trivial | refine ⟨.inl rfl, ?_⟩ | refine ⟨.inr ⟨rfl, rfl⟩, ?_⟩ | refine ⟨.inr ⟨congrArg (Value.int .i64) (by first | omega | (dsimp only; omega)), rfl⟩, ?_⟩)
  refine Zl (vx := Iv (Zkz ((l.getD i default).1) ((l.getD at_ default).1))) (vy := Iv 0) rfl rfl (.bool false) rfl rfl (Zfr (by omega)) ?_
  refine Zdc (Zb2 [[], [], [], [1, 2], [1, 2, 3], [], [0, 1, 2, 3, 4, 5], [0, 1, 2, 3, 4, 5, 6]] (by kernel_rfl) (by kernel_rfl)) ?_
  refine Zc (Zu rfl (Zz (Z7 (Zc (Zg (Zd (Iv (i : Nat)) ?_))))))
  refine Zl (vx := Iv (i : Nat)) (vy := Iv 1) rfl rfl (Iv ((i : Nat) + 1)) rfl rfl (Zak (by omega) (by omega) (by omega)) ?_
  refine Zb (Iv ((i : Nat) + 1)) (Za ?_)
  refine Zag ⟨((i + 1), at_), ⟨by first | exact Zvr hA (by omega) (by omega) | exact Zvs hA (by omega) (by omega), by omega, by omega, by omega⟩, by show l.length - (i + 1) < l.length - i; omega, ?_⟩
  refine Za7.drop [] rfl (Ze4 rfl rfl) ?_ (Zet (Zj (Zev Zv Zaz (by decide)) (Zj (.inr (by kernel_rfl)) (Zj (.inr (by kernel_rfl)) (Zj (.inl rfl) (Zj (.inl rfl) (Zj (.inl rfl) (Zj (.inl rfl) (Zj (.inl rfl) (Zj (.inl rfl) (Zj (.inl rfl) (Zj (.inl rfl) (Zj (.inl rfl) (Zj (.inl rfl) Zds))))))))))))) (Zeu Zv Zaz))
  repeat (first | exact trivial | refine ⟨.inl rfl, ?_⟩ | refine ⟨.inr ⟨rfl, rfl⟩, ?_⟩ | refine ⟨.inr ⟨congrArg (Value.int .i64) (by first | omega | (dsimp only; omega)), rfl⟩, ?_⟩)
  refine Zl (vx := Iv (i : Nat)) (vy := Iv (l.length : Nat)) rfl rfl (.bool false) rfl rfl (Zcd (by omega)) ?_
  refine Za (Zc (Zu rfl (Zbm (Zaq (Zax (Zav rfl (Zc (Zf (Zg (Zn (p := pt 2 0) (v := mxV ([Iv ((l.getD at_ default).1.node), Iv ((l.getD at_ default).1.log), Iv ((l.getD at_ default).1.commit), slv (at_ + 13) 0 ((l.getD at_ default).1.items.length) ((l.getD at_ default).2)])) (Zab (p := pt 1 0) (v := mxV ([Iv ((l.getD at_ default).1.node), Iv ((l.getD at_ default).1.log), Iv ((l.getD at_ default).1.commit), slv (at_ + 13) 0 ((l.getD at_ default).1.items.length) ((l.getD at_ default).2)])) (b := 1) (blk := (mxW 4 ([Iv ((l.getD at_ default).1.node), Iv ((l.getD at_ default).1.log), Iv ((l.getD at_ default).1.commit), slv (at_ + 13) 0 ((l.getD at_ default).1.items.length) ((l.getD at_ default).2)]))) (H' := ([(Zv.B 13 l), (mxW 4 ([Iv ((l.getD at_ default).1.node), Iv ((l.getD at_ default).1.log), Iv ((l.getD at_ default).1.commit), slv (at_ + 13) 0 ((l.getD at_ default).1.items.length) ((l.getD at_ default).2)])), (mxW 4 ([Iv ((l.getD at_ default).1.node), Iv ((l.getD at_ default).1.log), Iv ((l.getD at_ default).1.commit), slv (at_ + 13) 0 ((l.getD at_ default).1.items.length) ((l.getD at_ default).2)])), hole, hole, hole, hole, hole, hole, hole, hole, hole, hole] ++ (l.map Zv.blk))) (Za (Zc (Zr ?_))))))))))))))
  rw [show Zw l = at_ from by rw [hA]; unfold Zw; congr 1; omega]
  exact Zey (v := mxV ([Iv ((l.getD at_ default).1.node), Iv ((l.getD at_ default).1.log), Iv ((l.getD at_ default).1.commit), slv (at_ + 13) 0 ((l.getD at_ default).1.items.length) ((l.getD at_ default).2)])) rfl ⟨rfl, fun i hi => Zbw Zv rfl hi, [], rfl, by decide, rfl, Zce (by kernel_rfl) ⟨⟨rfl, rfl⟩, ⟨rfl, rfl⟩, ⟨rfl, rfl⟩, Z3z hat (hS _ hat).1.1, trivial⟩⟩
theorem Zy5 (l : List (TailT × Nat)) (c : Nat) (hc : l.length ≤ c) (hb : c ≤ 9223372036854775807) (hS : ∀ i, i < l.length → okT (l.getD i default)) (hB : ∀ i, i < l.length → (l.getD i default).1.items.length ≤ 60) (h2 : l.length ≤ 20) : Z6 Tryd.prog G 28 [slv 0 0 l.length c, .func (.func 29) #[] #[]] (Zv.S 0 l) (slv (l.length + 1) 0 l.length l.length) ((Zv.S 0 l) ++ [rwB Zd5 (Za0 l)]) := by
  refine Z6.deep (fn := Tryd.f28) (nt := 22) (N := [rwB Zd5 (Za0 l)]) 12 rfl rfl rfl rfl Zaz ⟨⟨rfl, rfl, rfl, by first | omega | exact Nat.le_refl _, by first | omega | exact Nat.le_refl _⟩, (by first | rfl | exact ⟨by kernel_rfl, by kernel_rfl⟩), trivial⟩ rfl rfl ?_
  refine Zgz (H' := ([(Zv.B 13 l), hole, hole, hole, hole, hole, hole, hole, hole, hole, hole, hole, hole] ++ (l.map Zv.blk))) rfl ?_
  refine Zf (Zg (Zb (.slice none 0 0) (Za (Zc (Zf (Zg (Zb (.slice none 0 0) (Za (Zc (Zf (Zf ?_)))))))))))
  refine Zca (Za7.nilTmp (i := 5) (b := 1) true 1 rfl (by decide) rfl) ?_
  refine Zg (Zd (slv 0 0 l.length c) (Zaw (p := slv 0 0 l.length c) (v := Iv (l.length : Nat)) (Zd (Iv 0) (Za (Zc (Z8 ?_))))))
  refine Zbt (fun x : Nat × (List Int) => match x with | (i, acc) => [slv 0 0 l.length c, .func (.func 29) #[] #[], dead, dead, .slice none 0 0, slv 1 0 i i, dead, dead, slv 0 0 l.length c, Iv (l.length : Nat), Iv (i : Nat)]) (fun x : Nat × (List Int) => match x with | (i, acc) => ([(Zv.B 13 l), rwB Zd5 acc, hole, hole, hole, hole, hole, hole, hole, hole, hole, hole, hole] ++ (l.map Zv.blk))) (fun x : Nat × (List Int) => match x with | (i, acc) => acc = Za0 (l.take i) ∧ i ≤ l.length ∧ acc.length = i) (fun x : Nat × (List Int) => match x with | (i, acc) => l.length - i) (0, []) ⟨rfl, by omega, rfl⟩ ?_ ?_
  · refine Za7.drop [] rfl (fun b => rfl) ?_ (fun x _ => Zln x)
    repeat (first | exact trivial | refine ⟨.inl rfl, ?_⟩ | refine ⟨.inr ⟨rfl, rfl⟩, ?_⟩ | refine ⟨.inr ⟨congrArg (Value.int .i64) (by first | omega | (dsimp only; omega)), rfl⟩, ?_⟩)
  rintro ⟨i, acc⟩ ⟨hA, hi, hlen⟩
  dsimp only at *
  refine Zf (Zg ?_)
  by_cases h1 : (i : Nat) < (l.length : Nat)
  refine Zl (vx := Iv (i : Nat)) (vy := Iv (l.length : Nat)) rfl rfl (.bool true) rfl rfl (Zck (by omega)) ?_
  refine Za (Zc (Zf (Zy rfl (Zz (Zc (Zf (Z8 (Zf (Zg ?_)))))))))
  refine Zbo (b := 0) (o := 0) (j := i * 4) (m := l.length) (c := c) (sz := 4) (i := (i : Nat)) (k := .i64) rfl rfl rfl rfl rfl (by omega) (by omega) (by omega) ?_
  refine Zal (p := pt 0 (i * 4)) (v := mxV ([Iv ((l.getD i default).1.node), Iv ((l.getD i default).1.log), Iv ((l.getD i default).1.commit), slv (i + 13) 0 ((l.getD i default).1.items.length) ((l.getD i default).2)])) rfl rfl rfl (Zh8 Zv (l := l) (i := i) (K := 13) (m := 4) rfl rfl rfl (by omega) (by omega)) ?_
  refine Zfh (b := (mxW 4 ([Iv 0, Iv 0, Iv 0, .slice none 0 0]))) (nid := 2) (H' := ([(Zv.B 13 l), rwB Zd5 acc, (mxW 4 ([Iv 0, Iv 0, Iv 0, .slice none 0 0])), hole, hole, hole, hole, hole, hole, hole, hole, hole, hole] ++ (l.map Zv.blk))) rfl rfl (by kernel_rfl) (by kernel_rfl) ?_
  refine Zab (p := pt 2 0) (v := mxV ([Iv ((l.getD i default).1.node), Iv ((l.getD i default).1.log), Iv ((l.getD i default).1.commit), slv (i + 13) 0 ((l.getD i default).1.items.length) ((l.getD i default).2)])) (b := 2) (blk := (mxW 4 ([Iv ((l.getD i default).1.node), Iv ((l.getD i default).1.log), Iv ((l.getD i default).1.commit), slv (i + 13) 0 ((l.getD i default).1.items.length) ((l.getD i default).2)]))) (H' := ([(Zv.B 13 l), rwB Zd5 acc, (mxW 4 ([Iv ((l.getD i default).1.node), Iv ((l.getD i default).1.log), Iv ((l.getD i default).1.commit), slv (i + 13) 0 ((l.getD i default).1.items.length) ((l.getD i default).2)])), hole, hole, hole, hole, hole, hole, hole, hole, hole, hole] ++ (l.map Zv.blk))) (Za (Zc ?_))
  have hok := hS i (by omega)
  obtain ⟨⟨ho1, ho2⟩, ⟨ho3, ho4⟩, ⟨ho5, ho6⟩, ho7, ho8⟩ := hok
  have hbi := hB i (by omega)
  refine Zg (Zd (slv 1 0 i i) (Zd (.func (.func 29) #[] #[]) (Zn (p := pt 2 0) (v := mxV ([Iv ((l.getD i default).1.node), Iv ((l.getD i default).1.log), Iv ((l.getD i default).1.commit), slv (i + 13) 0 ((l.getD i default).1.items.length) ((l.getD i default).2)])) ?_)))
  refine Z5 (e := [some ((i + 13), 0)]) (nid := 0) (Zw1 (G := G) ((l.getD i default).1) ((l.getD i default).1.items.length) ((l.getD i default).2) (rfl : _ = _) (by omega) (by omega)) (vals := [mxV ([Iv ((l.getD i default).1.node), Iv ((l.getD i default).1.log), Iv ((l.getD i default).1.commit), slv (i + 13) 0 ((l.getD i default).1.items.length) ((l.getD i default).2)])]) (v := Iv (((l.getD i default).1).commit)) (H' := ([(Zv.B 13 l), rwB Zd5 acc, (mxW 4 ([Iv ((l.getD i default).1.node), Iv ((l.getD i default).1.log), Iv ((l.getD i default).1.commit), slv (i + 13) 0 ((l.getD i default).1.items.length) ((l.getD i default).2)])), hole, hole, hole, hole, hole, hole, hole, hole, hole, hole] ++ (l.map Zv.blk))) rfl rfl rfl rfl rfl rfl rfl ⟨⟨(Zce (by kernel_rfl) ⟨⟨rfl, rfl⟩, ⟨rfl, rfl⟩, ⟨rfl, rfl⟩, ⟨rfl, rfl, rfl, by first | omega | exact Nat.le_refl _, by first | omega | exact Nat.le_refl _⟩, trivial⟩), trivial⟩, ⟨(Zco (Zbw Zv (l := l) (i := i) rfl (by omega)) rfl (by show 0 + (Zi.row _).length ≤ (Zi.row _).length; omega) (Zjo Zi _)), trivial⟩, rfl, rfl, rfl⟩ rfl (by kernel_rfl) ?_
  refine Zep (vs := [(0, Iv (((l.getD i default).1).commit))]) (v := slv 3 0 1 1) (blk := rwB Zd5 [(((l.getD i default).1).commit)]) (nid := 3) (H' := ([(Zv.B 13 l), rwB Zd5 acc, (mxW 4 ([Iv ((l.getD i default).1.node), Iv ((l.getD i default).1.log), Iv ((l.getD i default).1.commit), slv (i + 13) 0 ((l.getD i default).1.items.length) ((l.getD i default).2)])), rwB Zd5 [(((l.getD i default).1).commit)], hole, hole, hole, hole, hole, hole, hole, hole, hole] ++ (l.map Zv.blk))) rfl rfl rfl (by kernel_rfl) (by kernel_rfl) ?_
  have hl1 : (acc ++ [(((l.getD i default).1).commit)]).length = i + 1 := by have := hlen; have := (rfl : _ = 1); first | (rw [List.length_append]; omega) | (rw [List.length_append, List.length_take]; omega) | (simp; omega) | simp
  refine Zxx (p := slv 1 0 i i) (q := slv 3 0 1 1) (v := slv 1 0 (i + 1) (i + 1)) (b := 1) (blk := rwB Zd5 (acc ++ [(((l.getD i default).1).commit)])) (H' := ([(Zv.B 13 l), rwB Zd5 (acc ++ [(((l.getD i default).1).commit)]), (mxW 4 ([Iv ((l.getD i default).1.node), Iv ((l.getD i default).1.log), Iv ((l.getD i default).1.commit), slv (i + 13) 0 ((l.getD i default).1.items.length) ((l.getD i default).2)])), rwB Zd5 [(((l.getD i default).1).commit)], hole, hole, hole, hole, hole, hole, hole, hole, hole] ++ (l.map Zv.blk))) rfl rfl rfl (.inl ⟨_, rfl⟩) rfl rfl (Zig Zd5 (by_ := 8) (k := 1) (n' := i + 1) (ms := [(((l.getD i default).1).commit)]) (fun _ => rfl) rfl rfl (by kernel_rfl) rfl rfl (by have := hlen; omega) (by omega) (by decide) (by omega)) (Zet (Zj (Zev Zv Zaz (by decide)) (Zj (.inl rfl) (Zj (.inr (by kernel_rfl)) (Zj (.inl rfl) (Zj (.inl rfl) (Zj (.inl rfl) (Zj (.inl rfl) (Zj (.inl rfl) (Zj (.inl rfl) (Zj (.inl rfl) (Zj (.inl rfl) (Zj (.inl rfl) (Zj (.inl rfl) Zds))))))))))))) (Zeu Zv Zaz)) rfl (by kernel_rfl) ?_
  refine Zb (slv 1 0 (i + 1) (i + 1)) (Za (Z7 (Zc (Zg ?_))))
  refine Zl (vx := Iv (i : Nat)) (vy := Iv 1) rfl rfl (Iv ((i : Nat) + 1)) rfl rfl (Zak (by omega) (by omega) (by omega)) ?_
  refine Zd (Iv ((i : Nat) + 1)) (Za ?_)
  refine Zag ⟨((i + 1), (acc ++ [(((l.getD i default).1).commit)])), ⟨Zqz hA (by omega), by omega, by rw [List.length_append, hlen]; rfl⟩, by show l.length - (i + 1) < l.length - i; omega, ?_⟩
  refine Za7.drop [2, 3] rfl (Ze4 rfl rfl) ?_ (Zet (Zj (Zev Zv Zaz (by decide)) (Zj (.inl rfl) (Zj (.inl rfl) (Zj (.inl rfl) (Zj (.inl rfl) (Zj (.inl rfl) (Zj (.inl rfl) (Zj (.inl rfl) (Zj (.inl rfl) (Zj (.inl rfl) (Zj (.inl rfl) (Zj (.inl rfl) (Zj (.inl rfl) Zds))))))))))))) (Zeu Zv Zaz))
  repeat (first | exact trivial | refine ⟨.inl rfl, ?_⟩ | refine ⟨.inr ⟨rfl, rfl⟩, ?_⟩ | refine ⟨.inr ⟨congrArg (Value.int .i64) (by first | omega | (dsimp only; omega)), rfl⟩, ?_⟩)
  refine Zl (vx := Iv (i : Nat)) (vy := Iv (l.length : Nat)) rfl rfl (.bool false) rfl rfl (Zcd (by omega)) ?_
  refine Za (Zc (Zf (Zu rfl (Zbm (Zaq (Zax (Zav rfl (Zc (Zf (Zg (Zd (slv 1 0 i i) (Zb (slv 1 0 i i) (Za (Zc (Zr ?_)))))))))))))))
  rw [show Za0 l = acc from by rw [hA, List.take_of_length_le (by omega)]]
  exact Zey (v := slv 1 0 i i) rfl ⟨rfl, fun i hi => Zbw Zv rfl hi, [1], rfl, by decide, rfl, (by obtain rfl : i = l.length := (by omega); exact Zkt (j := 0) (ks := [1]) rfl (Nat.le_refl _))⟩
end Go.Flat
