/- Walks. -/
import Derived.Test.YtfjkagjbanhdlaaDoorFlatK
import Derived.Test.YtfjkagjbanhdlaaDoorFlatL
import Derived.Test.YtfjkagjbanhdlaaDoorK2
import Derived.Test.YtfjkagjbanhdlaaDoorH10
set_option linter.unusedVariables false
set_option linter.unusedSimpArgs false
set_option maxRecDepth 20000
namespace Go.Flat
open Go.Proofs
variable {G : Glob}
instance : Inhabited PStep := ⟨(⟨0, (⟨0, (⟨0, 0, 0, ⟨#[]⟩, (⟨(⟨0, 0, 0, dz, 0⟩ : Head), 0, dz⟩ : Signed), (⟨0, 0, 0, 0, dz⟩ : Claim)⟩ : Entry)⟩ : Item), [], (⟨(⟨0, 0, 0, dz, 0⟩ : Head), 0, dz⟩ : Signed)⟩ : PStep)⟩
def Za8 : Dcod (PStep × Nat) := { enc := fun x b => [.int .i64 x.1.index] ++ (Zr x.1.item ++ ([slv b 0 x.1.proof.length x.2] ++ (Zh x.1.head))), n := 181, len := fun _ _ => by kernel_rfl, pos := by decide, blk := fun x => dsR x.1.proof }
theorem Zdb : Za8.OK := by
 refine ⟨?_, ?_, fun _ => rfl, fun _ => rfl, fun _ => by show 0 < 32; decide, fun _ => rfl⟩
 ·intro e x b b' h
  show (([Iv x.1.index] ++ (Zr x.1.item ++ ([slv b 0 x.1.proof.length x.2] ++ (Zh x.1.head)))) : List Value).map (Zfv e) = [Iv x.1.index] ++ (Zr x.1.item ++ ([slv b' 0 x.1.proof.length x.2] ++ (Zh x.1.head)))
  rw [List.map_append, List.map_append, List.map_append, Zjk (l := [Iv x.1.index]) (by rfl), Zjk (l := Zr x.1.item) (by kernel_rfl), Zjk (l := Zh x.1.head) (by kernel_rfl), List.map_cons, Z4u h, List.map_nil]
 ·intro p x b h
  show (([Iv x.1.index] ++ (Zr x.1.item ++ ([slv b 0 x.1.proof.length x.2] ++ (Zh x.1.head)))) : List Value).all (Za9 p) = true
  rw [List.all_append, List.all_append, List.all_append, Zhd (l := [Iv x.1.index]) (by rfl), Zhd (l := Zr x.1.item) (by kernel_rfl), Zhd (l := Zh x.1.head) (by kernel_rfl)]
  simp only [List.all_cons, List.all_nil, Bool.and_true, Bool.true_and]
  exact h
def okS (x : PStep × Nat) : Prop := (x.1.proof.length ≤ x.2 ∧ x.2 ≤ 9223372036854775807) ∧ (-9223372036854775808 ≤ x.1.index ∧ x.1.index ≤ 9223372036854775807) ∧ -9223372036854775808 ≤ x.1.head.head.size ∧ x.1.head.head.size ≤ 9223372036854775807
def Zla (l : List (PStep × Nat)) : Bool := decide (20 < l.length) || l.any fun x => decide (60 < x.1.proof.length) || decide (1000 < x.1.item.entry.text.size)
theorem Zwa {l : List (PStep × Nat)} (h : 20 < l.length) : Zla l = true := by unfold Zla; rw [decide_eq_true h]; rfl
theorem Zwb {l : List (PStep × Nat)} {i : Nat} (h : i < l.length) (h1 : 60 < (l.getD i default).1.proof.length ∨ 1000 < (l.getD i default).1.item.entry.text.size) : Zla l = true := by
 unfold Zla
 rw [Bool.or_eq_true, List.any_eq_true]
 refine .inr ⟨l.getD i default, ?_, by simpa using h1⟩
 rw [List.getD_eq_getElem?_getD, List.getElem?_eq_getElem h]; exact List.getElem_mem h
theorem Z5t {l : List (PStep × Nat)} (h : ¬ 20 < l.length) (h1 : ∀ i, i < l.length → (l.getD i default).1.proof.length ≤ 60 ∧ (l.getD i default).1.item.entry.text.size ≤ 1000) : Zla l = false := by
 unfold Zla
 rw [decide_eq_false h, Bool.false_or, List.any_eq_false]
 intro x hx
 obtain ⟨i, hi, rfl⟩ := List.getElem_of_mem hx
 have := h1 i hi
 rw [List.getD_eq_getElem?_getD, List.getElem?_eq_getElem hi] at this
 simp at this ⊢
 omega
theorem Z3p {l : List (PStep × Nat)} (h : Zla l = false) : l.length ≤ 20 ∧ ∀ i, i < l.length → (l.getD i default).1.proof.length ≤ 60 := by
 unfold Zla at h
 rw [Bool.or_eq_false_iff, List.any_eq_false] at h
 refine ⟨by have := of_decide_eq_false h.1; omega, fun i hi => ?_⟩
 have := h.2 l[i] (List.getElem_mem hi)
 rw [List.getD_eq_getElem?_getD, List.getElem?_eq_getElem hi]
 simp at this ⊢
 omega
def Zh5 (n : Nat) : Int := if n = 0 ∨ 5 < n then 130 else 0
def Zpz (h : Option Signed) (x : PStep) : Int := match h with | none => 0 | some s => if Zdk x.item.entry (Zff s) = true then 0 else 130
def goL (kk : Nat → BitVec 32) (m : D) : List (PStep × Nat) → Option Signed → Int → Int
  | [], _, e => e
  | x :: l, h, e => if e = 0 then goL kk m l (some x.1.head) (if Zy kk m x.1 = 0 then Zpz h x.1 else Zy kk m x.1) else e
def goE (kk : Nat → BitVec 32) (m : D) (h : Option Signed) (l : List (PStep × Nat)) (e : Int) : Int := goL kk m l h e
theorem Zws {kk : Nat → BitVec 32} {m : D} {h : Option Signed} {x : PStep × Nat} {l : List (PStep × Nat)} {e : Int} : goE kk m h (x :: l) e = if e = 0 then goE kk m (some x.1.head) l (if Zy kk m x.1 = 0 then Zpz h x.1 else Zy kk m x.1) else e := rfl
def Zhr (kk : Nat → BitVec 32) (m : D) (l : List (PStep × Nat)) : Int := goE kk m none l (Zh5 l.length)
def Zgr (l : List (PStep × Nat)) (i : Nat) : Option Signed := if i = 0 then none else some (l.getD (i - 1) default).1.head
section
variable {kk : Nat → BitVec 32} {m : D} {l : List (PStep × Nat)} {i : Nat} {h : Option Signed} {e : Int}
theorem Zo1 (he : ¬ e = 0) : goE kk m h l e = e := by
 cases l with
 | nil => rfl
 | cons x l => rw [Zws, if_neg he]
theorem Zwr (hi : i < l.length) (h0 : goE kk m h (l.drop i) 0 = e) : goE kk m (some (l.getD i default).1.head) (l.drop (i + 1)) (if Zy kk m (l.getD i default).1 = 0 then Zpz h (l.getD i default).1 else Zy kk m (l.getD i default).1) = e := by
 rw [List.drop_eq_getElem_cons hi, Zws, if_pos rfl] at h0
 rw [List.getD_eq_getElem?_getD, List.getElem?_eq_getElem hi]; exact h0
theorem Zs4 : Zgr l (i + 1) = some (l.getD i default).1.head := by unfold Zgr; rw [if_neg (by omega)]; rfl
theorem Z37 {e0 : Int} (hi : i < l.length) (h0 : i = 0) (he : e0 = 0) (hg : goE kk m (Zgr l i) (l.drop i) e0 = e) : goE kk m (Zgr l (i + 1)) (l.drop (i + 1)) (Zy kk m (l.getD i default).1) = e := by
 subst he
 have := Zwr hi hg
 subst h0
 rw [show Zgr l 0 = none from rfl] at this
 rw [Zs4, ← this]
 congr 1
 split
 ·rename_i hw; rw [hw]; rfl
 ·rfl
theorem Z38 {e0 : Int} (hi : i < l.length) (hw : ¬ Zy kk m (l.getD i default).1 = 0) (he : e0 = 0) (hg : goE kk m (Zgr l i) (l.drop i) e0 = e) : goE kk m (Zgr l (i + 1)) (l.drop (i + 1)) (Zy kk m (l.getD i default).1) = e := by
 subst he
 have := Zwr hi hg
 rw [if_neg hw] at this
 rw [Zs4]; exact this
theorem Z6z {e0 : Int} (hi : i < l.length) (h0 : 0 < i) (hw : Zy kk m (l.getD i default).1 = 0) (he : e0 = 0) (hg : goE kk m (Zgr l i) (l.drop i) e0 = e) : goE kk m (Zgr l (i + 1)) (l.drop (i + 1)) (Zpz (some (l.getD (i - 1) default).1.head) (l.getD i default).1) = e := by
 subst he
 have := Zwr hi hg
 rw [if_pos hw, show Zgr l i = some (l.getD (i - 1) default).1.head from if_neg (by omega)] at this
 rw [Zs4]; exact this
theorem Zyk {e0 : Int} (hi : i < l.length) (h0 : 0 < i) (hw : Zy kk m (l.getD i default).1 = 0) (he : e0 = 0) (hq : Zdk (l.getD i default).1.item.entry (Zff (l.getD (i - 1) default).1.head) = true) (hg : goE kk m (Zgr l i) (l.drop i) e0 = e) : goE kk m (Zgr l (i + 1)) (l.drop (i + 1)) (Zy kk m (l.getD i default).1) = e := by
 have := Z6z hi h0 hw he hg
 rw [show Zpz (some (l.getD (i - 1) default).1.head) (l.getD i default).1 = Zy kk m (l.getD i default).1 from by rw [hw]; exact if_pos hq] at this; exact this
theorem Zyl {e0 : Int} (hi : i < l.length) (h0 : 0 < i) (hw : Zy kk m (l.getD i default).1 = 0) (he : e0 = 0) (hq : Zdk (l.getD i default).1.item.entry (Zff (l.getD (i - 1) default).1.head) = false) (hg : goE kk m (Zgr l i) (l.drop i) e0 = e) : goE kk m (Zgr l (i + 1)) (l.drop (i + 1)) 130 = e := by
 have := Z6z hi h0 hw he hg
 rw [show Zpz (some (l.getD (i - 1) default).1.head) (l.getD i default).1 = 130 from if_neg (by rw [hq]; decide)] at this; exact this
theorem Zmj {x : PStep × Nat} : goE kk m h (x :: l) 0 = 0 ↔ Zy kk m x.1 = 0 ∧ (∀ s, h = some s → Zdk x.1.item.entry (Zff s) = true) ∧ goE kk m (some x.1.head) l 0 = 0 := by
  rw [Zws, if_pos rfl]
  by_cases hw : Zy kk m x.1 = 0
  · rw [if_pos hw]
    cases h with
    | none => exact ⟨fun q => ⟨hw, fun s hs => (by cases hs), q⟩, fun q => q.2.2⟩
    | some s =>
      unfold Zpz; simp only
      by_cases he : Zdk x.1.item.entry (Zff s) = true
      · rw [if_pos he]; exact ⟨fun q => ⟨hw, fun s' hs => (by injection hs with hs; subst hs; exact he), q⟩, fun q => q.2.2⟩
      · rw [if_neg he, Zo1 (by decide)]
        exact ⟨fun q => (by cases q), fun q => absurd (q.2.1 s rfl) he⟩
  · rw [if_neg hw, Zo1 hw]
    exact ⟨fun q => absurd q hw, fun q => q.1⟩
theorem Z1m (hg : goE kk m h l 0 = 0) : goE kk m none l 0 = 0 := by
  cases l with
  | nil => rfl
  | cons x l => rw [Zmj] at hg ⊢; exact ⟨hg.1, fun s hs => (by cases hs), hg.2.2⟩
theorem Zuf : ∀ {l : List (PStep × Nat)} {h : Option Signed} (k : Nat), goE kk m h l 0 = 0 → goE kk m h (l.take k) 0 = 0
 | [], h, k, hg => by simp [goE, goL]
 | x :: l, h, 0, hg => rfl
 | x :: l, h, k + 1, hg => by
  rw [Zmj] at hg
  rw [List.take_succ_cons, Zmj]
  exact ⟨hg.1, hg.2.1, Zuf k hg.2.2⟩
theorem Zue : ∀ {l : List (PStep × Nat)} {h : Option Signed} (k : Nat), goE kk m h l 0 = 0 → goE kk m none (l.drop k) 0 = 0
 | [], h, k, hg => by simp [goE, goL]
 | x :: l, h, 0, hg => Z1m hg
 | x :: l, h, k + 1, hg => by
  rw [Zmj] at hg
  exact Zue k hg.2.2
theorem Zvu (hv : Zhr kk m l = 0) : l.length ≠ 0 ∧ l.length ≤ 5 ∧ goE kk m none l 0 = 0 := by
  unfold Zhr Zh5 at hv
  split at hv
  · rw [Zo1 (by decide)] at hv; cases hv
  · exact ⟨by omega, by omega, hv⟩
theorem Z3c {k : Nat} (hv : Zhr kk m l = 0) (h0 : 0 < k) (h1 : k < l.length) : Zhr kk m (l.take k) = 0 := by
 obtain ⟨g1, g2, g3⟩ := Zvu hv
 have hl : (l.take k).length = k := by rw [List.length_take]; omega
 unfold Zhr Zh5
 rw [hl, if_neg (by omega)]; exact Zuf k g3
theorem Z29 {k : Nat} (hv : Zhr kk m l = 0) (h1 : k < l.length) : Zhr kk m (l.drop k) = 0 := by
 obtain ⟨g1, g2, g3⟩ := Zvu hv
 have hl : (l.drop k).length = l.length - k := List.length_drop
 unfold Zhr Zh5
 rw [hl, if_neg (by omega)]; exact Zue k g3
end
theorem Z1k (l : List (PStep × Nat)) (c : Nat) (hc : l.length ≤ c) : Z9 Tryd.prog G 29 [slv 0 0 l.length c] (Za8.S 12 l) (Iv (Zh5 l.length)) (Za8.S 12 l) := by
  refine Z9.ro (fn := Tryd.f29) (nt := 11) rfl rfl rfl rfl (Dcod.S_ro Zdb _ _) rfl ?_
  refine Zsj (H' := ([(Za8.B 13 l), hole, hole, hole, hole, hole, hole, hole, hole, hole, hole, hole, hole] ++ (l.map Za8.blk))) rfl ?_
  refine Ze (Zf (Zb (Iv 0) (Za (Zc (Ze (Ze (Zf (Zd (slv 0 0 l.length c) (Zc3 (p := slv 0 0 l.length c) (v := Iv (l.length : Nat)) ?_)))))))))
  by_cases h1 : (l.length : Nat) = 0
  refine Zj (vx := Iv (l.length : Nat)) (vy := Iv 0) rfl rfl (.bool true) rfl rfl (Zeb (by omega)) ?_
  refine Zd (.bool true) (Zg (Zg (Zg (Zl (.bool true) (Za (Zc (Zv rfl (Ze (Zf (Zb (Iv 130) (Za (Zc (Zs (Zaa ?_))))))))))))))
  rw [show Zh5 l.length = 130 from by unfold Zh5; first | exact if_pos (by omega) | exact if_neg (by omega)]
  exact Zf3 (v := Iv 130) rfl rfl
  refine Zj (vx := Iv (l.length : Nat)) (vy := Iv 0) rfl rfl (.bool false) rfl rfl (Zgm (by omega)) ?_
  refine Zd (.bool false) (Zd (slv 0 0 l.length c) (Zc3 (p := slv 0 0 l.length c) (v := Iv (l.length : Nat)) ?_))
  by_cases h2 : 5 < (l.length : Nat)
  refine Zj (vx := Iv (l.length : Nat)) (vy := Iv 5) rfl rfl (.bool true) rfl rfl (Ze3 (by omega)) ?_
  refine Zl (.bool true) (Za (Zc (Zv rfl (Ze (Zf (Zb (Iv 130) (Za (Zc (Zs (Zaa ?_))))))))))
  rw [show Zh5 l.length = 130 from by unfold Zh5; first | exact if_pos (by omega) | exact if_neg (by omega)]
  exact Zf3 (v := Iv 130) rfl rfl
  refine Zj (vx := Iv (l.length : Nat)) (vy := Iv 5) rfl rfl (.bool false) rfl rfl (Ze2 (by omega)) ?_
  refine Zl (.bool false) (Za (Zc (Zt rfl (Z0 (Zc (Ze (Zf (Zb (Iv 0) (Za (Zc (Zs ?_)))))))))))
  rw [show Zh5 l.length = 0 from by unfold Zh5; first | exact if_pos (by omega) | exact if_neg (by omega)]
  exact Zf3 (v := Iv 0) rfl rfl
theorem Z3h (l : List (PStep × Nat)) (c : Nat) (hc : l.length ≤ c) (hcb : c ≤ 9223372036854775807) : Z9 Tryd.prog G 17 [slv 0 0 l.length c] (Za8.S 12 l) (.bool (Zla l)) (Za8.S 12 l) := by
  refine Z9.ro (fn := Tryd.f17) (nt := 31) rfl rfl rfl rfl (Dcod.S_ro Zdb _ _) rfl ?_
  refine Zsj (H' := ([(Za8.B 13 l), hole, hole, hole, hole, hole, hole, hole, hole, hole, hole, hole, hole] ++ (l.map Za8.blk))) rfl ?_
  refine Ze (Zf (Zb (.bool false) (Za (Zc (Ze (Ze (Zf (Zd (slv 0 0 l.length c) (Zc3 (p := slv 0 0 l.length c) (v := Iv (l.length : Nat)) ?_)))))))))
  by_cases h1 : 20 < (l.length : Nat)
  refine Zj (vx := Iv (l.length : Nat)) (vy := Iv 20) rfl rfl (.bool true) rfl rfl (Ze3 (by omega)) ?_
  refine Za (Zc (Zv rfl (Ze (Zf (Zb (.bool true) (Za (Zc (Zs (Zaa ?_)))))))))
  rw [show Zla l = true from by first | exact Zwa (by omega) | exact Zwb (i := i) (by omega) (by first | exact .inl (by omega) | exact .inr (by omega))]
  exact Zf3 (v := .bool true) rfl rfl
  refine Zj (vx := Iv (l.length : Nat)) (vy := Iv 20) rfl rfl (.bool false) rfl rfl (Ze2 (by omega)) ?_
  refine Za (Zc (Zt rfl (Z0 (Zc (Ze (Ze (Zf (Zb (Iv 0) (Za (Zc (Z5 ?_)))))))))))
  refine Zck (fun i : Nat => [slv 0 0 l.length c, dead, dead, Iv (i : Nat), slv 0 0 l.length c, Iv (l.length : Nat), .bool false]) (fun i : Nat => ([(Za8.B 13 l), hole, hole, hole, hole, hole, hole, hole, hole, hole, hole, hole, hole] ++ (l.map Za8.blk))) (fun i : Nat => (∀ j, j < i → (l.getD j default).1.proof.length ≤ 60 ∧ (l.getD j default).1.item.entry.text.size ≤ 1000) ∧ i ≤ l.length) (fun i : Nat => l.length - i) 0 ⟨fun _ h => absurd h (Nat.not_lt_zero _), by omega⟩ ?_ ?_
  · refine Zbo.drop [] rfl (fun b => rfl) ?_ (fun x _ => Zys x)
    repeat (first | exact trivial | refine ⟨.inl rfl, ?_⟩ | refine ⟨.inr ⟨rfl, rfl⟩, ?_⟩ | refine ⟨.inr ⟨congrArg (Value.int .i64) (by first | omega | (dsimp only; omega)), rfl⟩, ?_⟩)
  rintro i ⟨hA, hi⟩
  refine Ze (Ze (Zf (Zd (Iv (i : Nat)) (Zd (slv 0 0 l.length c) (Zc3 (p := slv 0 0 l.length c) (v := Iv (l.length : Nat)) ?_)))))
  by_cases h2 : (i : Nat) < (l.length : Nat)
  refine Zj (vx := Iv (i : Nat)) (vy := Iv (l.length : Nat)) rfl rfl (.bool true) rfl rfl (Zdd (by omega)) ?_
  refine Za (Zc (Zv rfl (Z0 (Zc (Ze (Z5 (Ze (Zf (Zd (slv 0 0 l.length c) (Zd (Iv (i : Nat)) ?_))))))))))
  refine Zbs (b := 0) (o := 0) (j := i * 181) (m := l.length) (c := c) (sz := 181) (i := (i : Nat)) (k := .i64) rfl rfl rfl rfl rfl (by omega) (by omega) (by omega) ?_
  refine Za2 (b := 0) (o := i * 181) (n := 111) (o' := i * 181 + 111) rfl rfl rfl rfl (by omega) ?_
  refine Zal (p := pt 0 (i * 181 + 111)) (v := slv (13 + i) 0 ((l.getD i default).1.proof.length) ((l.getD i default).2)) rfl rfl rfl (Zuq Za8 (l := l) (i := i) (K := 13) (k := 111) (n := 181) rfl rfl rfl (by omega) (by omega) (by decide) (by kernel_rfl) rfl) ?_
  refine Zc3 (p := slv (13 + i) 0 ((l.getD i default).1.proof.length) ((l.getD i default).2)) (v := Iv ((((l.getD i default).1.proof.length) : Nat) : Int)) ?_
  by_cases h3 : 60 < ((((l.getD i default).1.proof.length) : Nat) : Int)
  refine Zj (vx := Iv ((((l.getD i default).1.proof.length) : Nat) : Int)) (vy := Iv 60) rfl rfl (.bool true) rfl rfl (Ze3 (by omega)) ?_
  refine Zd (.bool true) (Zg (Zg (Zg (Zg (Zg (Zg (Zg (Zg (Zg (Zl (.bool true) (Za (Zc (Zv rfl (Ze (Zf (Zb (.bool true) (Za (Zc (Zs (Zct (Zaa (Zen (Zct (Zaa ?_))))))))))))))))))))))))
  rw [show Zla l = true from by first | exact Zwa (by omega) | exact Zwb (i := i) (by omega) (by first | exact .inl (by omega) | exact .inr (by omega))]
  exact Zf3 (v := .bool true) rfl rfl
  refine Zj (vx := Iv ((((l.getD i default).1.proof.length) : Nat) : Int)) (vy := Iv 60) rfl rfl (.bool false) rfl rfl (Ze2 (by omega)) ?_
  refine Zd (.bool false) (Zd (slv 0 0 l.length c) (Zd (Iv (i : Nat)) ?_))
  refine Zbs (b := 0) (o := 0) (j := i * 181) (m := l.length) (c := c) (sz := 181) (i := (i : Nat)) (k := .i64) rfl rfl rfl rfl rfl (by omega) (by omega) (by omega) ?_
  refine Za2 (b := 0) (o := i * 181) (n := 1) (o' := i * 181 + 1) rfl rfl rfl rfl (by omega) ?_
  refine Za2 (b := 0) (o := i * 181 + 1) (n := 1) (o' := i * 181 + 2) rfl rfl rfl rfl (by omega) ?_
  refine Za2 (b := 0) (o := i * 181 + 2) (n := 3) (o' := i * 181 + 5) rfl rfl rfl rfl (by omega) ?_
  refine Zal (p := pt 0 (i * 181 + 5)) (v := .string ((((l.getD i default).1.item).entry).text)) rfl rfl rfl (Zuq Za8 (l := l) (i := i) (K := 13) (k := 5) (n := 181) rfl rfl rfl (by omega) (by omega) (by decide) (by kernel_rfl) rfl) ?_
  refine Zc3 (p := .string ((((l.getD i default).1.item).entry).text)) (v := Iv (((((((l.getD i default).1.item).entry).text).size) : Nat) : Int)) ?_
  by_cases h4 : 1000 < (((((((l.getD i default).1.item).entry).text).size) : Nat) : Int)
  refine Zj (vx := Iv (((((((l.getD i default).1.item).entry).text).size) : Nat) : Int)) (vy := Iv 1000) rfl rfl (.bool true) rfl rfl (Ze3 (by omega)) ?_
  refine Zl (.bool true) (Za (Zc (Zv rfl (Ze (Zf (Zb (.bool true) (Za (Zc (Zs (Zct (Zaa (Zen (Zct (Zaa ?_))))))))))))))
  rw [show Zla l = true from by first | exact Zwa (by omega) | exact Zwb (i := i) (by omega) (by first | exact .inl (by omega) | exact .inr (by omega))]
  exact Zf3 (v := .bool true) rfl rfl
  refine Zj (vx := Iv (((((((l.getD i default).1.item).entry).text).size) : Nat) : Int)) (vy := Iv 1000) rfl rfl (.bool false) rfl rfl (Ze2 (by omega)) ?_
  refine Zl (.bool false) (Za (Zc (Zt rfl (Z0 (Zz (Zc (Zf (Zd (Iv (i : Nat)) ?_))))))))
  refine Zj (vx := Iv (i : Nat)) (vy := Iv 1) rfl rfl (Iv ((i : Nat) + 1)) rfl rfl (Za0 (by omega) (by omega) (by omega)) ?_
  refine Zb (Iv ((i : Nat) + 1)) (Za ?_)
  refine Zas ⟨(i + 1), ⟨fun j hj => by rcases Nat.lt_or_ge j i with h | h; exact hA j h; obtain rfl : j = i := (by omega); exact ⟨by omega, by omega⟩, by omega⟩, by show l.length - (i + 1) < l.length - i; omega, ?_⟩
  refine Zbo.drop [] rfl (Zmb rfl rfl) ?_ (Zmr (Z1 (Zmu Za8 Zdb (by decide)) (Z1 (.inl rfl) (Z1 (.inl rfl) (Z1 (.inl rfl) (Z1 (.inl rfl) (Z1 (.inl rfl) (Z1 (.inl rfl) (Z1 (.inl rfl) (Z1 (.inl rfl) (Z1 (.inl rfl) (Z1 (.inl rfl) (Z1 (.inl rfl) (Z1 (.inl rfl) Zms))))))))))))) (Zmt Za8 Zdb))
  repeat (first | exact trivial | refine ⟨.inl rfl, ?_⟩ | refine ⟨.inr ⟨rfl, rfl⟩, ?_⟩ | refine ⟨.inr ⟨congrArg (Value.int .i64) (by first | omega | (dsimp only; omega)), rfl⟩, ?_⟩)
  refine Zj (vx := Iv (i : Nat)) (vy := Iv (l.length : Nat)) rfl rfl (.bool false) rfl rfl (Zcw (by omega)) ?_
  refine Za (Zc (Zt rfl (Zbn (Zat (Za3 (Zay rfl (Zc (Ze (Zf (Zb (.bool false) (Za (Zc (Zs ?_)))))))))))))
  rw [show Zla l = false from Z5t (by omega) (fun j hj => hA j (by omega))]
  exact Zf3 (v := .bool false) rfl rfl
end Go.Flat
namespace Go.Flat
open Go.Proofs
variable {G : Glob}
section
variable {kk : Nat → BitVec 32} {m : D} {l : List (PStep × Nat)} {i : Nat} {e e0 : Int}
theorem Z3a (hi : l.length ≤ i) (hg : goE kk m (Zgr l i) (l.drop i) e = Zhr kk m l) : Zhr kk m l = e := by
 rw [List.drop_of_length_le hi] at hg; exact hg.symm
theorem Z3b (he : ¬ e = 0) (hg : goE kk m (Zgr l i) (l.drop i) e = Zhr kk m l) : Zhr kk m l = e := by
 rw [Zo1 he] at hg; exact hg.symm
end
theorem Zll (kk : Nat → BitVec 32) (hG : G 0 = some (Z6 w32 64 kk)) (master : D) (l : List (PStep × Nat)) (c : Nat) (hc : l.length ≤ c) (hcb : c ≤ 9223372036854775807) (hS : ∀ i, i < l.length → okS (l.getD i default)) (hB : ∀ i, i < l.length → (l.getD i default).1.proof.length ≤ 60) : Z9 Tryd.prog G 12 [dgV master, slv 0 0 l.length c] (Za8.S 12 l) (Iv (Zhr kk master l)) (Za8.S 12 l) := by
  refine Z9.ro (fn := Tryd.f12) (nt := 48) rfl rfl rfl rfl (Dcod.S_ro Zdb _ _) rfl ?_
  refine Zsj (H' := ([(Za8.B 13 l), hole, hole, hole, hole, hole, hole, hole, hole, hole, hole, hole, hole] ++ (l.map Za8.blk))) rfl ?_
  refine Ze (Zf ?_)
  refine Z2m (v := dgV master) (b := (bxM 32 (Z6 w8 32 master))) (nid := 1) (H' := ([(Za8.B 13 l), (bxM 32 (Z6 w8 32 master)), hole, hole, hole, hole, hole, hole, hole, hole, hole, hole, hole] ++ (l.map Za8.blk))) rfl rfl rfl (by kernel_rfl) (by kernel_rfl) ?_
  refine Zb (Iv 0) (Za (Zc ?_))
  refine Zoz (l := 0) rfl ?_
  refine Ze (Zf (Zd (slv 0 0 l.length c) ?_))
  refine Zki (e := (Za8.E 0 13 0 12 l.length)) (Z1k (G := G) l c (by omega)) (vals := [slv 0 0 l.length c]) rfl rfl rfl rfl rfl rfl rfl (Dcod.roOK Zdb (L := l) (l := l) (a := 0) (q := l.length) (by simp) (by omega) rfl (fun i hi => Zi8 Za8 rfl hi) ⟨⟨rfl, rfl, rfl, by omega, by omega⟩, trivial⟩ rfl) ?_
  refine Zb (Iv (Zh5 l.length)) (Za (Zc (Ze (Zoy (Zc (Ze (Ze (Zf (Zd (slv 0 0 l.length c) (Zc3 (p := slv 0 0 l.length c) (v := Iv (l.length : Nat)) (Zd (Iv 0) (Za (Zc (Z5 ?_))))))))))))))
  refine Zck (fun x : Nat × Int => match x with | (i, e) => [dgV master, slv 0 0 l.length c, pt 1 0, dead, Iv 0, Iv e, dead, dead, dead, slv 0 0 l.length c, Iv (Zh5 l.length), slv 0 0 l.length c, Iv (l.length : Nat), Iv (i : Nat)]) (fun x : Nat × Int => match x with | (i, e) => ([(Za8.B 13 l), (bxM 32 (Z6 w8 32 master)), hole, hole, hole, hole, hole, hole, hole, hole, hole, hole, hole] ++ (l.map Za8.blk))) (fun x : Nat × Int => match x with | (i, e) => goE kk master (Zgr l i) (l.drop i) e = Zhr kk master l ∧ i ≤ l.length) (fun x : Nat × Int => match x with | (i, e) => l.length - i) (0, (Zh5 l.length)) ⟨rfl, Nat.zero_le _⟩ ?_ ?_
  · refine Zbo.drop [] rfl (fun b => rfl) ?_ (fun x _ => Zys x)
    repeat (first | exact trivial | refine ⟨.inl rfl, ?_⟩ | refine ⟨.inr ⟨rfl, rfl⟩, ?_⟩ | refine ⟨.inr ⟨congrArg (Value.int .i64) (by first | omega | (dsimp only; omega)), rfl⟩, ?_⟩)
  rintro ⟨i, e⟩ ⟨hg, hi⟩
  dsimp only at *
  refine Ze (Zf ?_)
  by_cases h1 : (i : Nat) < (l.length : Nat)
  refine Zj (vx := Iv (i : Nat)) (vy := Iv (l.length : Nat)) rfl rfl (.bool true) rfl rfl (Zdd (by omega)) ?_
  refine Za (Zc (Ze (Zv rfl (Z0 (Zc (Ze (Z5 (Ze (Zf (Zd (Iv (i : Nat)) ?_))))))))))
  refine Zbs (b := 0) (o := 0) (j := i * 181) (m := l.length) (c := c) (sz := 181) (i := (i : Nat)) (k := .i64) rfl rfl rfl rfl rfl (by omega) (by omega) (by omega) ?_
  refine Zal (p := pt 0 (i * 181)) (v := mxV ([Iv ((l.getD i default).1.index)] ++ (Zr ((l.getD i default).1.item) ++ ([slv (13 + i) 0 ((l.getD i default).1.proof.length) ((l.getD i default).2)] ++ (Zh ((l.getD i default).1.head)))))) rfl rfl rfl (Z4i Za8 (l := l) (i := i) (K := 13) (m := 181) rfl rfl rfl (by omega) (by omega)) ?_
  refine Zu6 (b := (mxW 181 ([Iv 0] ++ (Zr (⟨0, (⟨0, 0, 0, ⟨#[]⟩, (⟨(⟨0, 0, 0, dz, 0⟩ : Head), 0, dz⟩ : Signed), (⟨0, 0, 0, 0, dz⟩ : Claim)⟩ : Entry)⟩ : Item) ++ ([.slice none 0 0] ++ (Zh (⟨(⟨0, 0, 0, dz, 0⟩ : Head), 0, dz⟩ : Signed))))))) (nid := 2) (H' := ([(Za8.B 13 l), (bxM 32 (Z6 w8 32 master)), (mxW 181 ([Iv 0] ++ (Zr (⟨0, (⟨0, 0, 0, ⟨#[]⟩, (⟨(⟨0, 0, 0, dz, 0⟩ : Head), 0, dz⟩ : Signed), (⟨0, 0, 0, 0, dz⟩ : Claim)⟩ : Entry)⟩ : Item) ++ ([.slice none 0 0] ++ (Zh (⟨(⟨0, 0, 0, dz, 0⟩ : Head), 0, dz⟩ : Signed)))))), hole, hole, hole, hole, hole, hole, hole, hole, hole, hole] ++ (l.map Za8.blk))) rfl rfl (by kernel_rfl) (by kernel_rfl) ?_
  refine Zb (Iv (i : Nat)) (Z2 (p := pt 2 0) (v := mxV ([Iv ((l.getD i default).1.index)] ++ (Zr ((l.getD i default).1.item) ++ ([slv (13 + i) 0 ((l.getD i default).1.proof.length) ((l.getD i default).2)] ++ (Zh ((l.getD i default).1.head)))))) (b := 2) (blk := (mxW 181 ([Iv ((l.getD i default).1.index)] ++ (Zr ((l.getD i default).1.item) ++ ([slv (13 + i) 0 ((l.getD i default).1.proof.length) ((l.getD i default).2)] ++ (Zh ((l.getD i default).1.head))))))) (H' := ([(Za8.B 13 l), (bxM 32 (Z6 w8 32 master)), (mxW 181 ([Iv ((l.getD i default).1.index)] ++ (Zr ((l.getD i default).1.item) ++ ([slv (13 + i) 0 ((l.getD i default).1.proof.length) ((l.getD i default).2)] ++ (Zh ((l.getD i default).1.head)))))), hole, hole, hole, hole, hole, hole, hole, hole, hole, hole] ++ (l.map Za8.blk))) (Za (Zc (Z5 (Ze (Zf (Zd (Iv e) ?_)))))))
  by_cases h2 : e ≠ 0
  refine Zj (vx := Iv e) (vy := Iv 0) rfl rfl (.bool true) rfl rfl (Zek (by omega)) ?_
  refine Zb (.bool true) (Za (Zc (Zv rfl (Zbn (Zhs rfl (Zhs rfl (Zat (Za3 (Zay rfl (Zc (Ze (Zf (Zd (Iv e) (Zb (Iv e) (Za (Zc (Zs (Zgw ?_))))))))))))))))))
  rw [show Zhr kk master l = e from by first | exact Z3a (by omega) hg | exact Z3b (by omega) hg]
  exact Zf3 (v := Iv e) rfl rfl
  refine Zj (vx := Iv e) (vy := Iv 0) rfl rfl (.bool false) rfl rfl (Zd6 (by omega)) ?_
  refine Zb (.bool false) (Za (Zc (Zt rfl (Ze ?_))))
  have hok := hS i (by omega)
  obtain ⟨⟨ho1, ho2⟩, ho3, ho4⟩ := hok
  have hob := hB i (by omega)
  refine Zf (Zd (Iv (i : Nat)) ?_)
  by_cases h3 : 0 < (i : Nat)
  refine Zj (vx := Iv (i : Nat)) (vy := Iv 0) rfl rfl (.bool true) rfl rfl (Ze3 (by omega)) ?_
  refine Zb (.bool true) (Za (Zc (Zv rfl (Ze (Zf (Zd (slv 0 0 l.length c) (Zd (Iv (i : Nat)) ?_)))))))
  refine Zj (vx := Iv (i : Nat)) (vy := Iv 1) rfl rfl (Iv ((i : Nat) - 1)) rfl rfl (Zdg (by omega) (by omega) (by omega)) ?_
  refine Zbs (b := 0) (o := 0) (j := (i - 1) * 181) (m := l.length) (c := c) (sz := 181) (i := (i : Nat) - 1) (k := .i64) rfl rfl rfl rfl rfl (by omega) (by omega) (by omega) ?_
  refine Za2 (b := 0) (o := (i - 1) * 181) (n := 112) (o' := (i - 1) * 181 + 112) rfl rfl rfl rfl (by omega) ?_
  refine Zal (p := pt 0 ((i - 1) * 181 + 112)) (v := Zw ((l.getD (i - 1) default).1.head)) rfl rfl rfl (Z16 Za8 (l := l) (i := i - 1) (K := 13) (k := 112) (n := 181) rfl rfl rfl (by omega) (by omega) (by decide) (by kernel_rfl)) ?_
  refine Zbm (vs := [(0, Iv 2), (4, Zw ((l.getD (i - 1) default).1.head))]) (v := Zcy (⟨2, 0, 0, ⟨#[]⟩, (l.getD (i - 1) default).1.head, (⟨0, 0, 0, 0, dz⟩ : Claim)⟩ : Entry)) rfl rfl rfl (by kernel_rfl) ?_
  refine Zu6 (b := (bxM 109 (Zc1 (⟨0, 0, 0, ⟨#[]⟩, (⟨(⟨0, 0, 0, dz, 0⟩ : Head), 0, dz⟩ : Signed), (⟨0, 0, 0, 0, dz⟩ : Claim)⟩ : Entry)))) (nid := 3) (H' := ([(Za8.B 13 l), (bxM 32 (Z6 w8 32 master)), (mxW 181 ([Iv ((l.getD i default).1.index)] ++ (Zr ((l.getD i default).1.item) ++ ([slv (13 + i) 0 ((l.getD i default).1.proof.length) ((l.getD i default).2)] ++ (Zh ((l.getD i default).1.head)))))), (bxM 109 (Zc1 (⟨0, 0, 0, ⟨#[]⟩, (⟨(⟨0, 0, 0, dz, 0⟩ : Head), 0, dz⟩ : Signed), (⟨0, 0, 0, 0, dz⟩ : Claim)⟩ : Entry))), hole, hole, hole, hole, hole, hole, hole, hole, hole] ++ (l.map Za8.blk))) rfl rfl (by kernel_rfl) (by kernel_rfl) ?_
  refine Z2 (p := pt 3 0) (v := Zcy (⟨2, 0, 0, ⟨#[]⟩, (l.getD (i - 1) default).1.head, (⟨0, 0, 0, 0, dz⟩ : Claim)⟩ : Entry)) (b := 3) (blk := (bxM 109 (Zc1 (⟨2, 0, 0, ⟨#[]⟩, (l.getD (i - 1) default).1.head, (⟨0, 0, 0, 0, dz⟩ : Claim)⟩ : Entry)))) (H' := ([(Za8.B 13 l), (bxM 32 (Z6 w8 32 master)), (mxW 181 ([Iv ((l.getD i default).1.index)] ++ (Zr ((l.getD i default).1.item) ++ ([slv (13 + i) 0 ((l.getD i default).1.proof.length) ((l.getD i default).2)] ++ (Zh ((l.getD i default).1.head)))))), (bxM 109 (Zc1 (⟨2, 0, 0, ⟨#[]⟩, (l.getD (i - 1) default).1.head, (⟨0, 0, 0, 0, dz⟩ : Claim)⟩ : Entry))), hole, hole, hole, hole, hole, hole, hole, hole, hole] ++ (l.map Za8.blk))) (Za (Zc (Ze (Zf (Zn (p := pt 1 0) (v := dgV master) (Zn (p := pt 2 0) (v := mxV ([Iv ((l.getD i default).1.index)] ++ (Zr ((l.getD i default).1.item) ++ ([slv (13 + i) 0 ((l.getD i default).1.proof.length) ((l.getD i default).2)] ++ (Zh ((l.getD i default).1.head)))))) ?_))))))
  refine Zab (e := [some ((13 + i), 0)]) (nid := 0) (Zkq (G := G) kk hG master ((l.getD i default).1) ((l.getD i default).1.proof.length) ((l.getD i default).2) (rfl : _ = _) (by omega) (by omega) (by first | omega | (dsimp only; omega))) (vals := [dgV master, mxV ([Iv ((l.getD i default).1.index)] ++ (Zr ((l.getD i default).1.item) ++ ([slv (13 + i) 0 ((l.getD i default).1.proof.length) ((l.getD i default).2)] ++ (Zh ((l.getD i default).1.head)))))]) (v := Iv (Zy kk master ((l.getD i default).1))) (H' := ([(Za8.B 13 l), (bxM 32 (Z6 w8 32 master)), (mxW 181 ([Iv ((l.getD i default).1.index)] ++ (Zr ((l.getD i default).1.item) ++ ([slv (13 + i) 0 ((l.getD i default).1.proof.length) ((l.getD i default).2)] ++ (Zh ((l.getD i default).1.head)))))), (bxM 109 (Zc1 (⟨2, 0, 0, ⟨#[]⟩, (l.getD (i - 1) default).1.head, (⟨0, 0, 0, 0, dz⟩ : Claim)⟩ : Entry))), hole, hole, hole, hole, hole, hole, hole, hole, hole] ++ (l.map Za8.blk))) rfl rfl rfl rfl rfl rfl rfl ⟨⟨rfl, (Zgf (by kernel_rfl) (Zav ⟨⟨rfl, rfl⟩, trivial⟩ (Zav (Zbk (by kernel_rfl)) (Zav ⟨⟨rfl, rfl, rfl, by first | omega | exact Nat.le_refl _, by first | omega | exact Nat.le_refl _⟩, trivial⟩ (Zbk (by kernel_rfl)))))), trivial⟩, ⟨(Zdh (Zi8 Za8 (l := l) (i := i) rfl (by omega)) rfl (by show 0 + (dsC _).length ≤ (dsC _).length; omega) (Zf8 _)), trivial⟩, rfl, rfl, rfl⟩ rfl (by kernel_rfl) ?_
  refine Zb (Iv (Zy kk master ((l.getD i default).1))) (Za (Zc (Ze (Zf (Zd (Iv (Zy kk master ((l.getD i default).1))) ?_)))))
  by_cases h4 : (Zy kk master ((l.getD i default).1)) = 0
  refine Zj (vx := Iv (Zy kk master ((l.getD i default).1))) (vy := Iv 0) rfl rfl (.bool true) rfl rfl (Zeb (by omega)) ?_
  refine Zd (.bool true) (Zi (b := 2) (o := 0) (n := 1) (o' := 1) (Zi (b := 2) (o := 1) (n := 1) (o' := 2) (Zn (p := pt 2 2) (v := Zcy (((l.getD i default).1.item).entry)) (Zn (p := pt 3 0) (v := Zcy (⟨2, 0, 0, ⟨#[]⟩, (l.getD (i - 1) default).1.head, (⟨0, 0, 0, 0, dz⟩ : Claim)⟩ : Entry)) ?_))))
  rcases Bool.eq_false_or_eq_true (Zdk (((l.getD i default).1.item).entry) (⟨2, 0, 0, ⟨#[]⟩, (l.getD (i - 1) default).1.head, (⟨0, 0, 0, 0, dz⟩ : Claim)⟩ : Entry)) with h5 | h5
  refine Zj (vx := Zcy (((l.getD i default).1.item).entry)) (vy := Zcy (⟨2, 0, 0, ⟨#[]⟩, (l.getD (i - 1) default).1.head, (⟨0, 0, 0, 0, dz⟩ : Claim)⟩ : Entry)) rfl rfl (.bool false) rfl rfl (Eq.trans (Zk2 (((l.getD i default).1.item).entry) (⟨2, 0, 0, ⟨#[]⟩, (l.getD (i - 1) default).1.head, (⟨0, 0, 0, 0, dz⟩ : Claim)⟩ : Entry)) (by rw [h5] <;> rfl)) ?_
  refine Zl (.bool false) (Za (Zc (Zt rfl (Z0 (Zz (Zz (Zc (Zf ?_))))))))
  refine Zj (vx := Iv (i : Nat)) (vy := Iv 1) rfl rfl (Iv ((i : Nat) + 1)) rfl rfl (Za0 (by omega) (by omega) (by omega)) ?_
  refine Zd (Iv ((i : Nat) + 1)) (Za ?_)
  refine Zas ⟨((i + 1), (Zy kk master ((l.getD i default).1))), ⟨by first | exact Z37 (by omega) (by omega) (by omega) hg | exact Z38 (by omega) (by omega) (by omega) hg | exact Zyk (by omega) (by omega) (by omega) (by omega) (by assumption) hg | exact Zyl (by omega) (by omega) (by omega) (by omega) (by assumption) hg, by dsimp only; omega⟩, by show l.length - (i + 1) < l.length - i; omega, ?_⟩
  refine Zbo.drop [2, 3] rfl (Zmb rfl rfl) ?_ (Zmr (Z1 (Zmu Za8 Zdb (by decide)) (Z1 (.inl rfl) (Z1 (.inl rfl) (Z1 (.inl rfl) (Z1 (.inl rfl) (Z1 (.inl rfl) (Z1 (.inl rfl) (Z1 (.inl rfl) (Z1 (.inl rfl) (Z1 (.inl rfl) (Z1 (.inl rfl) (Z1 (.inl rfl) (Z1 (.inl rfl) Zms))))))))))))) (Zmt Za8 Zdb))
  repeat (first | exact trivial | refine ⟨.inl rfl, ?_⟩ | refine ⟨.inr ⟨rfl, rfl⟩, ?_⟩ | refine ⟨.inr ⟨congrArg (Value.int .i64) (by first | omega | (dsimp only; omega)), rfl⟩, ?_⟩)
  refine Zj (vx := Zcy (((l.getD i default).1.item).entry)) (vy := Zcy (⟨2, 0, 0, ⟨#[]⟩, (l.getD (i - 1) default).1.head, (⟨0, 0, 0, 0, dz⟩ : Claim)⟩ : Entry)) rfl rfl (.bool true) rfl rfl (Eq.trans (Zk2 (((l.getD i default).1.item).entry) (⟨2, 0, 0, ⟨#[]⟩, (l.getD (i - 1) default).1.head, (⟨0, 0, 0, 0, dz⟩ : Claim)⟩ : Entry)) (by rw [h5] <;> rfl)) ?_
  refine Zl (.bool true) (Za (Zc (Zv rfl (Zf (Zb (Iv 130) (Za (Zz (Zz (Zc (Zf ?_))))))))))
  refine Zj (vx := Iv (i : Nat)) (vy := Iv 1) rfl rfl (Iv ((i : Nat) + 1)) rfl rfl (Za0 (by omega) (by omega) (by omega)) ?_
  refine Zd (Iv ((i : Nat) + 1)) (Za ?_)
  refine Zas ⟨((i + 1), 130), ⟨by first | exact Z37 (by omega) (by omega) (by omega) hg | exact Z38 (by omega) (by omega) (by omega) hg | exact Zyk (by omega) (by omega) (by omega) (by omega) (by assumption) hg | exact Zyl (by omega) (by omega) (by omega) (by omega) (by assumption) hg, by dsimp only; omega⟩, by show l.length - (i + 1) < l.length - i; omega, ?_⟩
  refine Zbo.drop [2, 3] rfl (Zmb rfl rfl) ?_ (Zmr (Z1 (Zmu Za8 Zdb (by decide)) (Z1 (.inl rfl) (Z1 (.inl rfl) (Z1 (.inl rfl) (Z1 (.inl rfl) (Z1 (.inl rfl) (Z1 (.inl rfl) (Z1 (.inl rfl) (Z1 (.inl rfl) (Z1 (.inl rfl) (Z1 (.inl rfl) (Z1 (.inl rfl) (Z1 (.inl rfl) Zms))))))))))))) (Zmt Za8 Zdb))
  repeat (first | exact trivial | refine ⟨.inl rfl, ?_⟩ | refine ⟨.inr ⟨rfl, rfl⟩, ?_⟩ | refine ⟨.inr ⟨congrArg (Value.int .i64) (by first | omega | (dsimp only; omega)), rfl⟩, ?_⟩)
  refine Zj (vx := Iv (Zy kk master ((l.getD i default).1))) (vy := Iv 0) rfl rfl (.bool false) rfl rfl (Zgm (by omega)) ?_
  refine Zd (.bool false) (Zg (Zg (Zg (Zg (Zg (Zl (.bool false) (Za (Zc (Zt rfl (Z0 (Zz (Zz (Zc (Zf ?_))))))))))))))
  refine Zj (vx := Iv (i : Nat)) (vy := Iv 1) rfl rfl (Iv ((i : Nat) + 1)) rfl rfl (Za0 (by omega) (by omega) (by omega)) ?_
  refine Zd (Iv ((i : Nat) + 1)) (Za ?_)
  refine Zas ⟨((i + 1), (Zy kk master ((l.getD i default).1))), ⟨by first | exact Z37 (by omega) (by omega) (by omega) hg | exact Z38 (by omega) (by omega) (by omega) hg | exact Zyk (by omega) (by omega) (by omega) (by omega) (by assumption) hg | exact Zyl (by omega) (by omega) (by omega) (by omega) (by assumption) hg, by dsimp only; omega⟩, by show l.length - (i + 1) < l.length - i; omega, ?_⟩
  refine Zbo.drop [2, 3] rfl (Zmb rfl rfl) ?_ (Zmr (Z1 (Zmu Za8 Zdb (by decide)) (Z1 (.inl rfl) (Z1 (.inl rfl) (Z1 (.inl rfl) (Z1 (.inl rfl) (Z1 (.inl rfl) (Z1 (.inl rfl) (Z1 (.inl rfl) (Z1 (.inl rfl) (Z1 (.inl rfl) (Z1 (.inl rfl) (Z1 (.inl rfl) (Z1 (.inl rfl) Zms))))))))))))) (Zmt Za8 Zdb))
  repeat (first | exact trivial | refine ⟨.inl rfl, ?_⟩ | refine ⟨.inr ⟨rfl, rfl⟩, ?_⟩ | refine ⟨.inr ⟨congrArg (Value.int .i64) (by first | omega | (dsimp only; omega)), rfl⟩, ?_⟩)
  refine Zj (vx := Iv (i : Nat)) (vy := Iv 0) rfl rfl (.bool false) rfl rfl (Ze2 (by omega)) ?_
  refine Zb (.bool false) (Za (Zc (Zt rfl (Zf (Zn (p := pt 1 0) (v := dgV master) (Zn (p := pt 2 0) (v := mxV ([Iv ((l.getD i default).1.index)] ++ (Zr ((l.getD i default).1.item) ++ ([slv (13 + i) 0 ((l.getD i default).1.proof.length) ((l.getD i default).2)] ++ (Zh ((l.getD i default).1.head)))))) ?_))))))
  refine Zab (e := [some ((13 + i), 0)]) (nid := 0) (Zkq (G := G) kk hG master ((l.getD i default).1) ((l.getD i default).1.proof.length) ((l.getD i default).2) (rfl : _ = _) (by omega) (by omega) (by first | omega | (dsimp only; omega))) (vals := [dgV master, mxV ([Iv ((l.getD i default).1.index)] ++ (Zr ((l.getD i default).1.item) ++ ([slv (13 + i) 0 ((l.getD i default).1.proof.length) ((l.getD i default).2)] ++ (Zh ((l.getD i default).1.head)))))]) (v := Iv (Zy kk master ((l.getD i default).1))) (H' := ([(Za8.B 13 l), (bxM 32 (Z6 w8 32 master)), (mxW 181 ([Iv ((l.getD i default).1.index)] ++ (Zr ((l.getD i default).1.item) ++ ([slv (13 + i) 0 ((l.getD i default).1.proof.length) ((l.getD i default).2)] ++ (Zh ((l.getD i default).1.head)))))), hole, hole, hole, hole, hole, hole, hole, hole, hole, hole] ++ (l.map Za8.blk))) rfl rfl rfl rfl rfl rfl rfl ⟨⟨rfl, (Zgf (by kernel_rfl) (Zav ⟨⟨rfl, rfl⟩, trivial⟩ (Zav (Zbk (by kernel_rfl)) (Zav ⟨⟨rfl, rfl, rfl, by first | omega | exact Nat.le_refl _, by first | omega | exact Nat.le_refl _⟩, trivial⟩ (Zbk (by kernel_rfl)))))), trivial⟩, ⟨(Zdh (Zi8 Za8 (l := l) (i := i) rfl (by omega)) rfl (by show 0 + (dsC _).length ≤ (dsC _).length; omega) (Zf8 _)), trivial⟩, rfl, rfl, rfl⟩ rfl (by kernel_rfl) ?_
  refine Zb (Iv (Zy kk master ((l.getD i default).1))) (Za (Zz (Zz (Zc (Zf ?_)))))
  refine Zj (vx := Iv (i : Nat)) (vy := Iv 1) rfl rfl (Iv ((i : Nat) + 1)) rfl rfl (Za0 (by omega) (by omega) (by omega)) ?_
  refine Zd (Iv ((i : Nat) + 1)) (Za ?_)
  refine Zas ⟨((i + 1), (Zy kk master ((l.getD i default).1))), ⟨by first | exact Z37 (by omega) (by omega) (by omega) hg | exact Z38 (by omega) (by omega) (by omega) hg | exact Zyk (by omega) (by omega) (by omega) (by omega) (by assumption) hg | exact Zyl (by omega) (by omega) (by omega) (by omega) (by assumption) hg, by dsimp only; omega⟩, by show l.length - (i + 1) < l.length - i; omega, ?_⟩
  refine Zbo.drop [2] rfl (Zmb rfl rfl) ?_ (Zmr (Z1 (Zmu Za8 Zdb (by decide)) (Z1 (.inl rfl) (Z1 (.inl rfl) (Z1 (.inl rfl) (Z1 (.inl rfl) (Z1 (.inl rfl) (Z1 (.inl rfl) (Z1 (.inl rfl) (Z1 (.inl rfl) (Z1 (.inl rfl) (Z1 (.inl rfl) (Z1 (.inl rfl) (Z1 (.inl rfl) Zms))))))))))))) (Zmt Za8 Zdb))
  repeat (first | exact trivial | refine ⟨.inl rfl, ?_⟩ | refine ⟨.inr ⟨rfl, rfl⟩, ?_⟩ | refine ⟨.inr ⟨congrArg (Value.int .i64) (by first | omega | (dsimp only; omega)), rfl⟩, ?_⟩)
  refine Zj (vx := Iv (i : Nat)) (vy := Iv (l.length : Nat)) rfl rfl (.bool false) rfl rfl (Zcw (by omega)) ?_
  refine Za (Zc (Ze (Zt rfl (Zbn (Zat (Za3 (Zay rfl (Zc (Ze (Zf (Zd (Iv e) (Zb (Iv e) (Za (Zc (Zs (Zgw ?_))))))))))))))))
  rw [show Zhr kk master l = e from by first | exact Z3a (by omega) hg | exact Z3b (by omega) hg]
  exact Zf3 (v := Iv e) rfl rfl
end Go.Flat
namespace Go.Flat
open Go.Proofs
variable {G : Glob}
section
variable (kk : Nat → BitVec 32)
theorem Zuk {α : Type} (l : List α) (x d : α) : (l ++ [x]).take ((l ++ [x]).length - 1) = l ∧ (l ++ [x]).getD ((l ++ [x]).length - 1) d = x ∧ 0 < (l ++ [x]).length := by
 refine ⟨by simp, ?_, by simp⟩
 rw [List.getD_eq_getElem?_getD]; simp
theorem Zwq {l : List D} {i k : Nat} (h : i < k) : (l.take k).getD i d0 = l.getD i d0 := by
 rw [List.getD_eq_getElem?_getD, List.getD_eq_getElem?_getD, List.getElem?_take, if_pos h]
theorem Zwp {l : List D} {i k : Nat} (h : k ≤ i) : (l.drop k).getD (i - k) d0 = l.getD i d0 := by
 rw [List.getD_eq_getElem?_getD, List.getD_eq_getElem?_getD, List.getElem?_drop]; congr 2; omega
theorem Zzh : ∀ (n : Nat) (l : List D) (i : Nat), l.length = n → i < n → ∃ w, Zip n i (Zdc kk l i) = some w ∧ (knA kk (l.getD i d0) w).getD 0 d0 = Zcf kk l := by
 intro n
 induction n using Nat.strongRecOn with
 | ind n ih =>
  intro l i hl hi
  by_cases h2 : 2 ≤ n
  ·obtain ⟨p1, p2⟩ := Zfp h2
   rw [Zzy kk (by omega), hl]
   by_cases hk : i < Zaq n
   ·rw [Zuj kk (by omega) (by rw [hl]; exact hk), hl]
    obtain ⟨q1, q2, q3⟩ := Zuk (Zdc kk (l.take (Zaq n)) i) (Zcf kk (l.drop (Zaq n))) d0
    obtain ⟨w, w1, w2⟩ := ih (Zaq n) p2 (l.take (Zaq n)) i (by rw [List.length_take]; omega) hk
    rw [Zo5 h2 q3 hk, q1, q2, w1]
    refine ⟨_, rfl, ?_⟩
    rw [Zwq hk] at w2
    simp only [knA, w2]
    rfl
   ·rw [Zui kk (by omega) (by rw [hl]; omega), hl]
    obtain ⟨q1, q2, q3⟩ := Zuk (Zdc kk (l.drop (Zaq n)) (i - Zaq n)) (Zcf kk (l.take (Zaq n))) d0
    obtain ⟨w, w1, w2⟩ := ih (n - Zaq n) (by omega) (l.drop (Zaq n)) (i - Zaq n) (by rw [List.length_drop]; omega) (by omega)
    rw [Zo4 h2 q3 (by omega), q1, q2, w1]
    refine ⟨_, rfl, ?_⟩
    rw [Zwp (by omega)] at w2
    simp only [knA, w2]
    rfl
  ·obtain rfl : n = 1 := by omega
   obtain rfl : i = 0 := by omega
   rw [Znw kk 0 (by omega), Zkp _ _ (by decide)]
   refine ⟨[], rfl, ?_⟩
   match l, hl with
   | [x], _ => rfl
theorem Zwn {l : List D} {n i : Nat} (hl : l.length = n) (hi : i < n) (hn : n ≤ 100000) : Zhk kk (Zcf kk l) (l.getD i d0) (n : Nat) (i : Nat) (Zdc kk l i) = 0 := by
 obtain ⟨w, w1, w2⟩ := Zzh kk n l i hl hi
 unfold Zhk
 rw [if_neg (by omega), show (n : Int).toNat = n from rfl, show (i : Int).toNat = i from rfl, w1]
 dsimp only
 rw [w2, Zvb]
 rfl
end
theorem Zrh : ∀ (l : List Item) (ep : Int) (i : Nat), Zju ep l = true → i < l.length → Zd1 (l.getD i default)
 | [], _, i, _, h => absurd h (by simp)
 | x :: l, ep, 0, h, _ => by
  rw [Zju, Bool.and_eq_true, Bool.and_eq_true] at h
  exact of_decide_eq_true h.1.1
 | x :: l, ep, i + 1, h, hi => by
  rw [Zju, Bool.and_eq_true] at h
  exact Zrh l x.epoch i h.2 (by simpa using hi)
theorem Zxx (kk : Nat → BitVec 32) (l : List Item) : ∀ (k i : Nat), i < k → (acL kk l k).getD i d0 = (Zap kk (l.getD i default)).1
 | 0, i, h => by omega
 | k + 1, i, h => by
  rw [acL]
  rcases Nat.lt_or_ge i k with q | q
  ·rw [List.getD_eq_getElem?_getD, List.getElem?_append_left (by rw [Zfk]; exact q), ← List.getD_eq_getElem?_getD]
   exact Zxx kk l k i q
  ·obtain rfl : i = k := by omega
   rw [List.getD_eq_getElem?_getD, List.getElem?_append_right (by rw [Zfk]; exact Nat.le_refl _), Zfk, Nat.sub_self]; rfl
theorem Zyi {kk : Nat → BitVec 32} {l : List Item} {n : Int} (h : (Zae kk l n).2 = 0) : Zin l ∧ 0 ≤ n ∧ n ≤ l.length ∧ Zae kk l n = (acL kk l n.toNat, 0) := by
 unfold Zae at h ⊢
 split at h
 ·rename_i h1
  split at h
  ·rename_i h2
   exact ⟨h1, h2.1, h2.2, by rw [if_pos h1, if_pos h2]⟩
  ·exact absurd h (by decide)
 ·exact absurd h (by decide)
theorem Z4g {kk : Nat → BitVec 32} {l : List Item} {i : Nat} (h : Zin l) (hi : i < l.length) : (Zap kk (l.getD i default)).2 = 0 := by
 have : Zd1 (l.getD i default) := Zrh l 0 i h.2 hi
 rw [show Zap kk (l.getD i default) = (lfT kk (Zk (Zcl (l.getD i default)).1), 0) from if_pos this]
theorem Z1h {kk : Nat → BitVec 32} {l : List Item} {n i : Int} (h : (Zah kk l n i).2 = 0) : 0 ≤ i ∧ i < l.length ∧ (Zac kk l n).2 = 0 ∧ (Zap kk (l.getD i.toNat default)).2 = 0 ∧ Zhk kk (Zac kk l n).1 (Zap kk (l.getD i.toNat default)).1 n i (Zah kk l n i).1 = 0 := by
 by_cases h0 : (Zae kk l n).2 = 0
 ·obtain ⟨g1, g2, g3, g4⟩ := Zyi h0
  have hlen : (Zae kk l n).1.length = n.toNat := by rw [g4]; exact Zfk _ _ _
  by_cases h1 : 0 ≤ i ∧ i < (Zae kk l n).1.length
  ·rw [hlen] at h1
   have er : Zac kk l n = (Zcf kk (acL kk l n.toNat), 0) := by unfold Zac; rw [if_pos h0, g4]
   have ei : Zah kk l n i = (Zdc kk (acL kk l n.toNat) i.toNat, 0) := by unfold Zah; rw [if_pos h0, hlen, if_pos h1, g4]
   rw [er, ei]
   refine ⟨h1.1, by omega, rfl, Z4g g1 (by omega), ?_⟩
   have := g1.1
   have hf := Zwn kk (l := acL kk l n.toNat) (n := n.toNat) (i := i.toNat) (Zfk _ _ _) (by omega) (by omega)
   rw [Zxx kk l n.toNat i.toNat (by omega), show ((n.toNat : Nat) : Int) = n by omega, show ((i.toNat : Nat) : Int) = i by omega] at hf
   exact hf
  ·rw [show Zah kk l n i = ([], 20) from by unfold Zah; rw [if_pos h0, if_neg h1]] at h
   exact absurd h (by decide)
 ·rw [show Zah kk l n i = ([], (Zae kk l n).2) from by unfold Zah; rw [if_neg h0]] at h
  exact absurd h h0
end Go.Flat
