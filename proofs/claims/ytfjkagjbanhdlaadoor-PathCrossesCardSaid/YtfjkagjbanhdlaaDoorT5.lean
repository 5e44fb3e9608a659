/- Walks. -/
import Derived.Test.YtfjkagjbanhdlaaDoorT3B
import Derived.Test.YtfjkagjbanhdlaaDoorT2C
set_option linter.unusedVariables false
set_option linter.unusedSimpArgs false
set_option maxRecDepth 20000
namespace Go.Flat
open Go.Proofs
variable {G : Glob}
theorem Z0d {P : Program} {ts : Array TypeId} {t : TypeId} {x y : Int} (h : x ≤ y) : mmD P .min ts t [Iv x, Iv y] = some (Iv x) := by
 show (if true = true then (Z6 P (Builtin.min_ ts t [Value.int .i64 x, Iv y].toArray)).bind (fun v => if Zbi v = true then some v else none) else none) = _
 rw [if_pos rfl]
 have : Z6 P (Builtin.min_ ts t [Value.int .i64 x, Iv y].toArray) = some (Iv x) := by
  rw [show (some (Value.int .i64 x) : Option Value) = some (Iv (if y < x then y else x)) by rw [if_neg (by omega)]]
  have e : Builtin.min_ ts t [Value.int .i64 x, Iv y].toArray = pure (Iv (if y < x then y else x)) := by simp [Builtin.min_, Builtin.min2]
  rw [e, Z9]
 simp [this, Zbi, Zbk]
theorem Zz7 {P : Program} {ts : Array TypeId} {t : TypeId} {x y : Int} (h : ¬ x ≤ y) : mmD P .min ts t [Iv x, Iv y] = some (Iv y) := by
 show (if true = true then (Z6 P (Builtin.min_ ts t [Value.int .i64 x, Iv y].toArray)).bind (fun v => if Zbi v = true then some v else none) else none) = _
 rw [if_pos rfl]
 have : Z6 P (Builtin.min_ ts t [Value.int .i64 x, Iv y].toArray) = some (Iv y) := by
  rw [show (some (Value.int .i64 y) : Option Value) = some (Iv (if y < x then y else x)) by rw [if_pos (by omega)]]
  have e : Builtin.min_ ts t [Value.int .i64 x, Iv y].toArray = pure (Iv (if y < x then y else x)) := by simp [Builtin.min_, Builtin.min2]
  rw [e, Z9]
 simp [this, Zbi, Zbk]
theorem Zp2 {α : Type} (cd : Cod α) {H : List Blk} {blk : Blk} {b n c : Nat} {l : List α} (hb : H[b]? = some blk) (hc : blk.cells = cd.row l) (hl : n ≤ l.length) : Zg6 H cd.n (slv b 0 n c) = some (n, cd.row (l.take n)) := by
 have hlen : (cd.row l).length = l.length * cd.n := cd.row_len l
 show (H[b]?).bind (fun blk => if 0 + n * cd.n ≤ blk.cells.length then some (n, (blk.cells.drop 0).take (n * cd.n)) else none) = _
 rw [hb, Option.bind_some, hc, if_pos (by rw [hlen, Nat.zero_add]; exact Nat.mul_le_mul_right _ hl), List.drop_zero, cd.row_take]
theorem Zpo {α : Type} (cd : Cod α) {H : List Blk} {blk : Blk} {b o n c : Nat} {l : List α} (hb : H[b]? = some blk) (hc : blk.cells = cd.row l) (hl : o + n ≤ l.length) : Zg6 H cd.n (slv b (o * cd.n) n c) = some (n, cd.row ((l.drop o).take n)) := by
 have hlen : (cd.row l).length = l.length * cd.n := cd.row_len l
 show (H[b]?).bind (fun blk => if o * cd.n + n * cd.n ≤ blk.cells.length then some (n, (blk.cells.drop (o * cd.n)).take (n * cd.n)) else none) = _
 rw [hb, Option.bind_some, hc, if_pos (by rw [hlen, ← Nat.add_mul]; exact Nat.mul_le_mul_right _ hl), cd.row_drop, cd.row_take]
def epW (l : List Item) (j : Nat) : Int := if l.length = 0 then 1 else (l.getD (min j (l.length - 1)) default).epoch
def Zp5 (l : List Item) (j : Nat) (s : Signed) : Item := (⟨epW l j, (⟨2, 0, 0, ⟨#[]⟩, s, (⟨0, 0, 0, 0, dz⟩ : Claim)⟩ : Entry)⟩ : Item)
def Ze (l : List Item) (j : Nat) (s : Signed) : List Item := l.take j ++ [Zp5 l j s] ++ l.drop j
section
variable {l : List Item} {n j : Nat} {s : Signed}
theorem Zhx (hn : l.length = n) (hj : j ≤ n) : (Ze l j s).length = n + 1 := by
 unfold Ze
 rw [List.length_append, List.length_append, List.length_take, List.length_drop, List.length_singleton]; omega
theorem Zw8 (hn : l.length = n) (hj : j ≤ n) : (Ze l j s).getD ((j : Nat) : Int).toNat default = Zp5 l j s := by
 unfold Ze
 rw [show ((j : Nat) : Int).toNat = j from rfl, List.getD_eq_getElem?_getD, List.append_assoc, List.getElem?_append_right (by rw [List.length_take]; omega), List.length_take, show j - min j l.length = 0 by omega]
 rfl
theorem Zmv (hn : l.length = n) {e : Int} (he : epW l j = e) : Ze l j s = [] ++ l.take j ++ [(⟨e, (⟨2, 0, 0, ⟨#[]⟩, s, (⟨0, 0, 0, 0, dz⟩ : Claim)⟩ : Entry)⟩ : Item)] ++ (l.drop j).take (n - j) := by
 subst he
 rw [List.take_of_length_le (l := l.drop j) (by rw [List.length_drop]; omega)]; rfl
theorem Zpe (h : ¬ 0 < n) (hj : j ≤ n) (hn : l.length = n) : Ze l j s = [] ++ l.take j ++ [(⟨1, (⟨2, 0, 0, ⟨#[]⟩, s, (⟨0, 0, 0, 0, dz⟩ : Claim)⟩ : Entry)⟩ : Item)] ++ (l.drop j).take (n - j) := by
 refine Zmv hn ?_
 unfold epW; rw [if_pos (by omega)]
theorem Zsl (hn : l.length = n) (h : 0 < n) (h2 : (j : Int) ≤ (n : Int) - 1) : Ze l j s = [] ++ l.take j ++ [(⟨(l.getD j default).epoch, (⟨2, 0, 0, ⟨#[]⟩, s, (⟨0, 0, 0, 0, dz⟩ : Claim)⟩ : Entry)⟩ : Item)] ++ (l.drop j).take (n - j) := by
 refine Zmv hn ?_
 unfold epW; rw [if_neg (by omega), show min j (l.length - 1) = j by omega]
theorem Zrr (hn : l.length = n) (h : 0 < n) (h2 : ¬ (j : Int) ≤ (n : Int) - 1) (hj : j ≤ n) : Ze l j s = [] ++ l.take j ++ [(⟨(l.getD (n - 1) default).epoch, (⟨2, 0, 0, ⟨#[]⟩, s, (⟨0, 0, 0, 0, dz⟩ : Claim)⟩ : Entry)⟩ : Item)] ++ (l.drop j).take (n - j) := by
 refine Zmv hn ?_
 unfold epW; rw [if_neg (by omega), show min j (l.length - 1) = n - 1 by omega]
end
def sgF (kk : Nat → BitVec 32) (master : D) (l : List Item) (n : Nat) (region : Int) : Signed := (Zaz kk master (Zab kk l ((n : Nat) : Int) region 1 1).1 1).1
theorem Zrm : ∀ (l : List Item) (p : Int) (j : Nat) (e : Entry), Zdi p l = true → j ≤ l.length → Zfb e → 0 < l.length → Zdi p (l.take j ++ [(⟨(l.getD (min j (l.length - 1)) default).epoch, e⟩ : Item)] ++ l.drop j) = true
 | [], p, j, e, _, _, _, h => absurd h (by simp)
 | x :: xs, p, 0, e, h, _, he, _ => by
  rw [Zdi, Bool.and_eq_true, Bool.and_eq_true] at h
  have hx := of_decide_eq_true h.1.1
  have hp := of_decide_eq_true h.1.2
  show Zdi p ((⟨((x :: xs).getD (min 0 _) default).epoch, e⟩ : Item) :: x :: xs) = true
  rw [Nat.zero_min]
  show Zdi p ((⟨x.epoch, e⟩ : Item) :: x :: xs) = true
  rw [Zdi, Zdi, decide_eq_true (show Zc9 ⟨x.epoch, e⟩ from ⟨hx.1, hx.2.1, he⟩), decide_eq_true (show p ≤ (⟨x.epoch, e⟩ : Item).epoch from hp), decide_eq_true hx, decide_eq_true (show (⟨x.epoch, e⟩ : Item).epoch ≤ x.epoch from Int.le_refl _), h.2]
  rfl
 | x :: [], p, j + 1, e, h, hj, he, _ => by
  have hj0 : j = 0 := by simp at hj; omega
  subst hj0
  rw [Zdi, Bool.and_eq_true, Bool.and_eq_true] at h
  have hx := of_decide_eq_true h.1.1
  show Zdi p (x :: (⟨x.epoch, e⟩ : Item) :: []) = true
  rw [Zdi, Zdi, Zdi, h.1.1, h.1.2, decide_eq_true (show Zc9 ⟨x.epoch, e⟩ from ⟨hx.1, hx.2.1, he⟩), decide_eq_true (show x.epoch ≤ (⟨x.epoch, e⟩ : Item).epoch from Int.le_refl _)]
  rfl
 | x :: y :: ys, p, j + 1, e, h, hj, he, _ => by
  rw [Zdi, Bool.and_eq_true] at h
  have ih := Zrm (y :: ys) x.epoch j e h.2 (by simpa using hj) he (by simp)
  have hm : (x :: y :: ys).getD (min (j + 1) ((x :: y :: ys).length - 1)) default = (y :: ys).getD (min j ((y :: ys).length - 1)) default := by
   rw [show min (j + 1) ((x :: y :: ys).length - 1) = min j ((y :: ys).length - 1) + 1 by simp only [List.length_cons]; omega]; rfl
  rw [hm]
  show Zdi p (x :: ((y :: ys).take j ++ [(⟨((y :: ys).getD (min j ((y :: ys).length - 1)) default).epoch, e⟩ : Item)] ++ (y :: ys).drop j)) = true
  rw [Zdi, h.1, ih]; rfl
theorem Zpg {s : Signed} (h : Zi8 s) : Zfb ⟨2, 0, 0, ⟨#[]⟩, s, (⟨0, 0, 0, 0, dz⟩ : Claim)⟩ := .inr (.inl ⟨rfl, rfl, rfl, rfl, h, Zjk _⟩)
theorem Zos {l : List Item} {j : Nat} {s : Signed} (h : Zdj l) (hl : l.length ≤ 1000) (hj : j ≤ l.length) (hs : Zi8 s) : Zdj (Ze l j s) := by
 refine ⟨by rw [Zhx rfl hj]; omega, ?_⟩
 unfold Ze Zp5 epW
 by_cases h0 : l.length = 0
 ·have hl0 : l = [] := List.eq_nil_of_length_eq_zero h0
  subst hl0
  rw [if_pos h0]
  rw [List.drop_nil, List.take_nil]
  show Zdi 0 [(⟨1, (⟨2, 0, 0, ⟨#[]⟩, s, (⟨0, 0, 0, 0, dz⟩ : Claim)⟩ : Entry)⟩ : Item)] = true
  rw [Zdi, Zdi, decide_eq_true (show Zc9 (⟨1, (⟨2, 0, 0, ⟨#[]⟩, s, (⟨0, 0, 0, 0, dz⟩ : Claim)⟩ : Entry)⟩ : Item) from ⟨by show (1 : Int) ≤ 1; decide, by show (1 : Int) ≤ 900000000; decide, Zpg hs⟩)]
  rfl
 ·rw [if_neg h0]
  exact Zrm l 0 j _ h.2 hj (Zpg hs) (by omega)
section
variable {kk : Nat → BitVec 32} {master : D} {l : List Item} {n : Nat} {region i : Int}
theorem Zmm (h : Zdj l) (hn : l.length = n) (hr : 1 ≤ region ∧ region ≤ 5) : (Zab kk l ((n : Nat) : Int) region 1 1).2 = 0 := by
 have h2 := h.1
 have h0 : Zah kk l ((n : Nat) : Int) = (acL kk l n, 0) := by unfold Zah; rw [if_pos h, if_pos ⟨by omega, by omega⟩]; rfl
 have h1 : Zae kk l ((n : Nat) : Int) = (Zb8 kk (Zah kk l ((n : Nat) : Int)).1, 0) := by unfold Zae; rw [if_pos (by rw [h0])]
 unfold Zab
 rw [if_pos (by rw [h1])]
 have hc : Za4 ⟨region, 1, ((n : Nat) : Int), (Zae kk l ((n : Nat) : Int)).1, 1⟩ = 0 := by rw [Zft, if_pos]; unfold Zfl; dsimp only; omega
 rw [if_pos hc]
theorem Zoe (h : Zdj l) (hn : l.length = n) (hr : 1 ≤ region ∧ region ≤ 5) : (Zaz kk master (Zab kk l ((n : Nat) : Int) region 1 1).1 1).2 = 0 := by
 have h2 := h.1
 unfold Zaz
 rw [if_pos]
 refine ⟨?_, by decide, by decide⟩
 rw [(Zhr (Zmm h hn hr)).2]; unfold Zfl; dsimp only; omega
theorem Zz1 (h : Zdj l) (hn : l.length = n) (hr : 1 ≤ region ∧ region ≤ 5) : Zi8 (sgF kk master l n region) := (Zkz (Zmm h hn hr) (Zoe h hn hr)).2
theorem Zsk (h : Zdj l) (hn : l.length = n) (hr : 1 ≤ region ∧ region ≤ 5) : (sgF kk master l n region).head.size = n := by
 have := (Zkz (master := master) (Zmm (kk := kk) h hn hr) (Zoe h hn hr)).1
 show (Zaz kk master (Zab kk l ((n : Nat) : Int) region 1 1).1 1).1.head.size = _
 rw [this]
theorem Zqv (h : Zdj l) (hn : l.length = n) (hr : 1 ≤ region ∧ region ≤ 5) : (sgF kk master l n region).head.region = region := by
 have := (Zkz (master := master) (Zmm (kk := kk) h hn hr) (Zoe h hn hr)).1
 show (Zaz kk master (Zab kk l ((n : Nat) : Int) region 1 1).1 1).1.head.region = _
 rw [this]
theorem Zpn (h : Zdj l) (hn : l.length = n) (hr : 1 ≤ region ∧ region ≤ 5) (hi : 0 ≤ i ∧ i < n) :
  Zen kk l i (sgF kk master l n region) = (⟨i, l.getD i.toNat default, (Zl kk l (sgF kk master l n region).head.size i).1, sgF kk master l n region⟩, 0) ∧ Zct kk master [⟨i, l.getD i.toNat default, (Zl kk l (sgF kk master l n region).head.size i).1, sgF kk master l n region⟩] = 0 :=
 (Zoz (Zmm h hn hr) (Zoe h hn hr) hi).2
end
theorem Z0u {kk : Nat → BitVec 32} {m : D} {x y z : PStep} (h1 : Zct kk m [x] = 0) (h2 : Zct kk m [y] = 0) (h3 : Zct kk m [z] = 0) (h4 : Zcw y.item.entry (Zfc x.head) = true) (h5 : Zcw z.item.entry (Zfc y.head) = true) : Zct kk m [x, y, z] = 0 := by
 rw [Zhw] at h1 h2 h3
 rw [Zfj h1 h2 h4 h3 h5, h3]
theorem Z1t {kk : Nat → BitVec 32} {m : D} {x z : PStep} (h1 : Zct kk m [x] = 0) (h3 : Zct kk m [z] = 0) (h4 : Zcw z.item.entry (Zfc x.head) = false) : Zct kk m [x, z] = 130 := by
 rw [Zhw] at h1 h3
 exact Ze5 h1 h3 h4
theorem Zt4 {kk : Nat → BitVec 32} {master : D} {a c s2 : List Item} {na n2 jk : Nat} (ra : Zdj a) (hna : a.length = na) (h1 : (1 : Int) ≤ 1 ∧ (1 : Int) ≤ 5) (r2 : Zdj s2) (l2 : s2.length = n2) (h2 : (1 : Int) ≤ 2 ∧ (2 : Int) ≤ 5) : Zcw (Zp5 c jk (sgF kk master s2 n2 2)).entry (Zfc (sgF kk master a na 1)) = false := by
 cases hq : Zcw (Zp5 c jk (sgF kk master s2 n2 2)).entry (Zfc (sgF kk master a na 1)) with
 | false => rfl
 | true =>
  have e1 := Zqv (kk := kk) (master := master) r2 l2 h2
  have e2 := Zqv (kk := kk) (master := master) ra hna h1
  have hs : Zd4 (sgF kk master s2 n2 2) (sgF kk master a na 1) = true := by
   unfold Zcw at hq; simp only [Bool.and_eq_true] at hq; exact hq.2.2.2.2.1
  have hh : Zij (sgF kk master s2 n2 2).head (sgF kk master a na 1).head = true := by
   unfold Zd4 at hs; simp only [Bool.and_eq_true] at hs; exact hs.1
  unfold Zij at hh
  simp only [Bool.and_eq_true, beq_iff_eq] at hh
  have := hh.1
  rw [e1, e2] at this
  exact absurd this (by decide)
theorem Zxm (l : List Item) (n c : Nat) (hn : l.length = n) (hc : n ≤ c) (hb : n ≤ 1048576) (j : Nat) (hj : j ≤ n) (s : Signed) : Zaf Tryd.prog G 15 [slv 0 0 n c, Iv (j : Nat), Zs s] [rwR Zk l] (slv 1 0 (n + 1) (n + 1)) [rwR Zk l, rwB Zk (Ze l j s)] := by
  refine Zbj (fn := Tryd.f15) (nt := 39) rfl rfl rfl rfl ?_
  refine Zai 3 (H' := [rwR Zk l, hole, hole, hole]) rfl ?_
  refine Zg (Zj ?_)
  refine Zcj (v := Zs s) (b := bxB 69 (Za s)) (nid := 1) (H' := [rwR Zk l, bxB 69 (Za s), hole, hole]) rfl rfl rfl (by kernel_rfl) (by kernel_rfl) ?_
  refine Zd rfl rfl (.slice none 0 0) rfl (Zb (Zc (Zg (Zj (Zd rfl rfl (Iv 1) rfl (Zb (Zc (Zg (Zg (Zj (Zf rfl rfl (slv 0 0 n c) rfl ?_)))))))))))
  refine Zbl (p := slv 0 0 n c) (v := Iv (n : Nat)) rfl rfl rfl rfl ?_
  by_cases h1 : 0 < (n : Nat)
  refine Zo (vx := Iv (n : Nat)) (vy := Iv 0) rfl rfl (.bool true) rfl rfl (Zeh (by omega)) ?_
  refine Zb (Zc (Z0 rfl (Zj (Zf rfl rfl (slv 0 0 n c) rfl (Zf rfl rfl (Iv (j : Nat)) rfl (Zf rfl rfl (slv 0 0 n c) rfl ?_))))))
  refine Zbl (p := slv 0 0 n c) (v := Iv (n : Nat)) rfl rfl rfl rfl ?_
  refine Zo (vx := Iv (n : Nat)) (vy := Iv 1) rfl rfl (Iv ((n : Nat) - 1)) rfl rfl (Zcv (by omega) (by omega) (by omega)) ?_
  by_cases h2 : (j : Nat) ≤ (n : Nat) - 1
  refine Z5j (vs := [Iv (j : Nat), Iv ((n : Nat) - 1)]) (v := Iv (j : Nat)) rfl rfl rfl (Z0d (by omega)) ?_
  refine Zba (b := 0) (o := 0) (j := j * 110) (m := n) (c := c) (sz := 110) (i := (j : Nat)) (k := .i64) rfl rfl rfl rfl rfl (by omega) (by omega) (by omega) ?_
  refine Zn (b := 0) (o := j * 110) (n := 0) (o' := j * 110) rfl rfl rfl rfl (by omega) ?_
  refine Zp (p := pt 0 (j * 110)) (v := Iv ((l.getD j default).epoch)) rfl rfl rfl (Zm8 Zk (l := l) (i := j) (k := 0) (m := 110) rfl rfl rfl rfl (by have := hn; omega) (by omega) (by kernel_rfl) rfl) ?_
  refine Zd rfl rfl (Iv ((l.getD j default).epoch)) rfl (Zb (Zc (Zg (Zj (Zd rfl rfl (.slice none 0 0) rfl (Zb (Zc (Zg ?_))))))))
  refine Zby (Zbt.nilTmp (i := 8) (b := 2) true 110 rfl (by decide) rfl) ?_
  refine Zj (Zf rfl rfl (slv 2 0 0 0) rfl (Zf rfl rfl (slv 0 0 n c) rfl (Zf rfl rfl (Iv (j : Nat)) rfl ?_)))
  refine Zch (p := slv 0 0 n c) (vl := none) (vh := some (Iv (j : Nat))) (v := slv 0 0 j c) rfl rfl rfl rfl rfl (Zfz (h := j) rfl rfl (by omega) (by omega) rfl) ?_
  have hl11 : ([] ++ (l.take j)).length = j := by have := (by have := hn; rw [List.length_take]; omega : (l.take j).length = j); first | (rw [List.length_append]; omega) | (rw [List.length_append, List.length_take]; omega) | (simp; omega) | simp
  refine Zbo (p := slv 2 0 0 0) (q := slv 0 0 j c) (v := slv 2 0 j j) (b := 2) (blk := rwB Zk ([] ++ (l.take j))) (H' := [rwR Zk l, bxB 69 (Za s), rwB Zk ([] ++ (l.take j)), hole]) rfl rfl rfl (.inl ⟨_, rfl⟩) rfl rfl (Zfi Zk (by_ := 216) (k := j) (n' := j) (ms := (l.take j)) (fun _ => rfl) rfl rfl (Zp2 Zk rfl rfl (by have := hn; omega)) rfl rfl rfl (by omega) (by decide) (by omega)) rfl (by kernel_rfl) ?_
  refine Zd rfl rfl (slv 2 0 j j) rfl (Zb (Zc (Zg (Zj (Zf rfl rfl (slv 2 0 j j) rfl (Zf rfl rfl (Iv ((l.getD j default).epoch)) rfl ?_))))))
  refine Zp (p := pt 1 0) (v := Zs s) rfl rfl rfl (by kernel_rfl) ?_
  refine Za1 (vs := [(0, Iv 2), (4, Zs s)]) (v := Zb0 (⟨2, 0, 0, ⟨#[]⟩, s, (⟨0, 0, 0, 0, dz⟩ : Claim)⟩ : Entry)) rfl rfl rfl (by kernel_rfl) ?_
  refine Za1 (vs := [(0, Iv ((l.getD j default).epoch)), (1, Zb0 (⟨2, 0, 0, ⟨#[]⟩, s, (⟨0, 0, 0, 0, dz⟩ : Claim)⟩ : Entry))]) (v := Zay (⟨((l.getD j default).epoch), (⟨2, 0, 0, ⟨#[]⟩, s, (⟨0, 0, 0, 0, dz⟩ : Claim)⟩ : Entry)⟩ : Item)) rfl rfl rfl (by kernel_rfl) ?_
  refine Zdh (vs := [(0, Zay (⟨((l.getD j default).epoch), (⟨2, 0, 0, ⟨#[]⟩, s, (⟨0, 0, 0, 0, dz⟩ : Claim)⟩ : Entry)⟩ : Item))]) (v := slv 3 0 1 1) (blk := rwB Zk [(⟨((l.getD j default).epoch), (⟨2, 0, 0, ⟨#[]⟩, s, (⟨0, 0, 0, 0, dz⟩ : Claim)⟩ : Entry)⟩ : Item)]) (nid := 3) (H' := [rwR Zk l, bxB 69 (Za s), rwB Zk ([] ++ (l.take j)), rwB Zk [(⟨((l.getD j default).epoch), (⟨2, 0, 0, ⟨#[]⟩, s, (⟨0, 0, 0, 0, dz⟩ : Claim)⟩ : Entry)⟩ : Item)]]) rfl rfl rfl (by kernel_rfl) (by kernel_rfl) ?_
  have hl12 : (([] ++ (l.take j)) ++ [(⟨((l.getD j default).epoch), (⟨2, 0, 0, ⟨#[]⟩, s, (⟨0, 0, 0, 0, dz⟩ : Claim)⟩ : Entry)⟩ : Item)]).length = j + 1 := by have := hl11; have := (rfl : _ = 1); first | (rw [List.length_append]; omega) | (rw [List.length_append, List.length_take]; omega) | (simp; omega) | simp
  refine Zbo (p := slv 2 0 j j) (q := slv 3 0 1 1) (v := slv 2 0 (j + 1) (j + 1)) (b := 2) (blk := rwB Zk (([] ++ (l.take j)) ++ [(⟨((l.getD j default).epoch), (⟨2, 0, 0, ⟨#[]⟩, s, (⟨0, 0, 0, 0, dz⟩ : Claim)⟩ : Entry)⟩ : Item)])) (H' := [rwR Zk l, bxB 69 (Za s), rwB Zk (([] ++ (l.take j)) ++ [(⟨((l.getD j default).epoch), (⟨2, 0, 0, ⟨#[]⟩, s, (⟨0, 0, 0, 0, dz⟩ : Claim)⟩ : Entry)⟩ : Item)]), rwB Zk [(⟨((l.getD j default).epoch), (⟨2, 0, 0, ⟨#[]⟩, s, (⟨0, 0, 0, 0, dz⟩ : Claim)⟩ : Entry)⟩ : Item)]]) rfl rfl rfl (.inl ⟨_, rfl⟩) rfl rfl (Zfi Zk (by_ := 216) (k := 1) (n' := j + 1) (ms := [(⟨((l.getD j default).epoch), (⟨2, 0, 0, ⟨#[]⟩, s, (⟨0, 0, 0, 0, dz⟩ : Claim)⟩ : Entry)⟩ : Item)]) (fun _ => rfl) rfl rfl (by kernel_rfl) rfl rfl (by have := hl11; omega) (by omega) (by decide) (by omega)) rfl (by kernel_rfl) ?_
  refine Zd rfl rfl (slv 2 0 (j + 1) (j + 1)) rfl (Zb (Zc (Zg (Zj (Zf rfl rfl (slv 2 0 (j + 1) (j + 1)) rfl (Zf rfl rfl (slv 0 0 n c) rfl (Zf rfl rfl (Iv (j : Nat)) rfl ?_)))))))
  refine Zch (p := slv 0 0 n c) (vl := some (Iv (j : Nat))) (vh := none) (v := slv 0 (j * 110) (n - j) (c - j)) rfl rfl rfl rfl rfl (Zix (sz := 110) (l := j) rfl rfl rfl (by omega) (by omega) (by omega) rfl (by omega) (by omega) (by omega)) ?_
  have hl13 : ((([] ++ (l.take j)) ++ [(⟨((l.getD j default).epoch), (⟨2, 0, 0, ⟨#[]⟩, s, (⟨0, 0, 0, 0, dz⟩ : Claim)⟩ : Entry)⟩ : Item)]) ++ ((l.drop j).take (n - j))).length = n + 1 := by have := hl12; have := (by have := hn; rw [List.length_take, List.length_drop]; omega : ((l.drop j).take (n - j)).length = n - j); first | (rw [List.length_append]; omega) | (rw [List.length_append, List.length_take]; omega) | (simp; omega) | simp
  refine Zbo (p := slv 2 0 (j + 1) (j + 1)) (q := slv 0 (j * 110) (n - j) (c - j)) (v := slv 2 0 (n + 1) (n + 1)) (b := 2) (blk := rwB Zk ((([] ++ (l.take j)) ++ [(⟨((l.getD j default).epoch), (⟨2, 0, 0, ⟨#[]⟩, s, (⟨0, 0, 0, 0, dz⟩ : Claim)⟩ : Entry)⟩ : Item)]) ++ ((l.drop j).take (n - j)))) (H' := [rwR Zk l, bxB 69 (Za s), rwB Zk ((([] ++ (l.take j)) ++ [(⟨((l.getD j default).epoch), (⟨2, 0, 0, ⟨#[]⟩, s, (⟨0, 0, 0, 0, dz⟩ : Claim)⟩ : Entry)⟩ : Item)]) ++ ((l.drop j).take (n - j))), rwB Zk [(⟨((l.getD j default).epoch), (⟨2, 0, 0, ⟨#[]⟩, s, (⟨0, 0, 0, 0, dz⟩ : Claim)⟩ : Entry)⟩ : Item)]]) rfl rfl rfl (.inl ⟨_, rfl⟩) rfl rfl (Zfi Zk (by_ := 216) (k := n - j) (n' := n + 1) (ms := ((l.drop j).take (n - j))) (fun _ => rfl) rfl rfl (Zpo Zk rfl rfl (by have := hn; omega)) rfl rfl (by have := hl12; omega) (by omega) (by decide) (by omega)) rfl (by kernel_rfl) ?_
  refine Zd rfl rfl (slv 2 0 (n + 1) (n + 1)) rfl (Zb (Zc (Zg (Zj (Zf rfl rfl (slv 2 0 (n + 1) (n + 1)) rfl (Zd rfl rfl (slv 2 0 (n + 1) (n + 1)) rfl (Zb (Zc (Zx (Zy ?_))))))))))
  rw [show Ze l j s = ((([] ++ (l.take j)) ++ [(⟨((l.getD j default).epoch), (⟨2, 0, 0, ⟨#[]⟩, s, (⟨0, 0, 0, 0, dz⟩ : Claim)⟩ : Entry)⟩ : Item)]) ++ ((l.drop j).take (n - j))) from by first | exact Zpe (by omega) hj (by omega) | exact Zsl hn (by omega) (by omega) | exact Zrr hn (by omega) (by omega) hj]
  exact Za2 [0, 2] (v := slv 2 0 (n + 1) (n + 1)) rfl (by kernel_rfl) rfl rfl (by decide) (by simp [Za8, rwB, rwR, Zk]) ⟨rfl, rfl, rfl, by first | omega | exact Nat.le_refl _ | exact Nat.zero_le _ | (dsimp only; omega), by first | omega | exact Nat.le_refl _ | exact Nat.zero_le _ | (dsimp only; omega)⟩
  refine Z5j (vs := [Iv (j : Nat), Iv ((n : Nat) - 1)]) (v := Iv ((n : Nat) - 1)) rfl rfl rfl (Zz7 (by omega)) ?_
  refine Zba (b := 0) (o := 0) (j := (n - 1) * 110) (m := n) (c := c) (sz := 110) (i := (n : Nat) - 1) (k := .i64) rfl rfl rfl rfl rfl (by omega) (by omega) (by omega) ?_
  refine Zn (b := 0) (o := (n - 1) * 110) (n := 0) (o' := (n - 1) * 110) rfl rfl rfl rfl (by omega) ?_
  refine Zp (p := pt 0 ((n - 1) * 110)) (v := Iv ((l.getD (n - 1) default).epoch)) rfl rfl rfl (Zm8 Zk (l := l) (i := n - 1) (k := 0) (m := 110) rfl rfl rfl rfl (by have := hn; omega) (by omega) (by kernel_rfl) rfl) ?_
  refine Zd rfl rfl (Iv ((l.getD (n - 1) default).epoch)) rfl (Zb (Zc (Zg (Zj (Zd rfl rfl (.slice none 0 0) rfl (Zb (Zc (Zg ?_))))))))
  refine Zby (Zbt.nilTmp (i := 8) (b := 2) true 110 rfl (by decide) rfl) ?_
  refine Zj (Zf rfl rfl (slv 2 0 0 0) rfl (Zf rfl rfl (slv 0 0 n c) rfl (Zf rfl rfl (Iv (j : Nat)) rfl ?_)))
  refine Zch (p := slv 0 0 n c) (vl := none) (vh := some (Iv (j : Nat))) (v := slv 0 0 j c) rfl rfl rfl rfl rfl (Zfz (h := j) rfl rfl (by omega) (by omega) rfl) ?_
  have hl14 : ([] ++ (l.take j)).length = j := by have := (by have := hn; rw [List.length_take]; omega : (l.take j).length = j); first | (rw [List.length_append]; omega) | (rw [List.length_append, List.length_take]; omega) | (simp; omega) | simp
  refine Zbo (p := slv 2 0 0 0) (q := slv 0 0 j c) (v := slv 2 0 j j) (b := 2) (blk := rwB Zk ([] ++ (l.take j))) (H' := [rwR Zk l, bxB 69 (Za s), rwB Zk ([] ++ (l.take j)), hole]) rfl rfl rfl (.inl ⟨_, rfl⟩) rfl rfl (Zfi Zk (by_ := 216) (k := j) (n' := j) (ms := (l.take j)) (fun _ => rfl) rfl rfl (Zp2 Zk rfl rfl (by have := hn; omega)) rfl rfl rfl (by omega) (by decide) (by omega)) rfl (by kernel_rfl) ?_
  refine Zd rfl rfl (slv 2 0 j j) rfl (Zb (Zc (Zg (Zj (Zf rfl rfl (slv 2 0 j j) rfl (Zf rfl rfl (Iv ((l.getD (n - 1) default).epoch)) rfl ?_))))))
  refine Zp (p := pt 1 0) (v := Zs s) rfl rfl rfl (by kernel_rfl) ?_
  refine Za1 (vs := [(0, Iv 2), (4, Zs s)]) (v := Zb0 (⟨2, 0, 0, ⟨#[]⟩, s, (⟨0, 0, 0, 0, dz⟩ : Claim)⟩ : Entry)) rfl rfl rfl (by kernel_rfl) ?_
  refine Za1 (vs := [(0, Iv ((l.getD (n - 1) default).epoch)), (1, Zb0 (⟨2, 0, 0, ⟨#[]⟩, s, (⟨0, 0, 0, 0, dz⟩ : Claim)⟩ : Entry))]) (v := Zay (⟨((l.getD (n - 1) default).epoch), (⟨2, 0, 0, ⟨#[]⟩, s, (⟨0, 0, 0, 0, dz⟩ : Claim)⟩ : Entry)⟩ : Item)) rfl rfl rfl (by kernel_rfl) ?_
  refine Zdh (vs := [(0, Zay (⟨((l.getD (n - 1) default).epoch), (⟨2, 0, 0, ⟨#[]⟩, s, (⟨0, 0, 0, 0, dz⟩ : Claim)⟩ : Entry)⟩ : Item))]) (v := slv 3 0 1 1) (blk := rwB Zk [(⟨((l.getD (n - 1) default).epoch), (⟨2, 0, 0, ⟨#[]⟩, s, (⟨0, 0, 0, 0, dz⟩ : Claim)⟩ : Entry)⟩ : Item)]) (nid := 3) (H' := [rwR Zk l, bxB 69 (Za s), rwB Zk ([] ++ (l.take j)), rwB Zk [(⟨((l.getD (n - 1) default).epoch), (⟨2, 0, 0, ⟨#[]⟩, s, (⟨0, 0, 0, 0, dz⟩ : Claim)⟩ : Entry)⟩ : Item)]]) rfl rfl rfl (by kernel_rfl) (by kernel_rfl) ?_
  have hl15 : (([] ++ (l.take j)) ++ [(⟨((l.getD (n - 1) default).epoch), (⟨2, 0, 0, ⟨#[]⟩, s, (⟨0, 0, 0, 0, dz⟩ : Claim)⟩ : Entry)⟩ : Item)]).length = j + 1 := by have := hl14; have := (rfl : _ = 1); first | (rw [List.length_append]; omega) | (rw [List.length_append, List.length_take]; omega) | (simp; omega) | simp
  refine Zbo (p := slv 2 0 j j) (q := slv 3 0 1 1) (v := slv 2 0 (j + 1) (j + 1)) (b := 2) (blk := rwB Zk (([] ++ (l.take j)) ++ [(⟨((l.getD (n - 1) default).epoch), (⟨2, 0, 0, ⟨#[]⟩, s, (⟨0, 0, 0, 0, dz⟩ : Claim)⟩ : Entry)⟩ : Item)])) (H' := [rwR Zk l, bxB 69 (Za s), rwB Zk (([] ++ (l.take j)) ++ [(⟨((l.getD (n - 1) default).epoch), (⟨2, 0, 0, ⟨#[]⟩, s, (⟨0, 0, 0, 0, dz⟩ : Claim)⟩ : Entry)⟩ : Item)]), rwB Zk [(⟨((l.getD (n - 1) default).epoch), (⟨2, 0, 0, ⟨#[]⟩, s, (⟨0, 0, 0, 0, dz⟩ : Claim)⟩ : Entry)⟩ : Item)]]) rfl rfl rfl (.inl ⟨_, rfl⟩) rfl rfl (Zfi Zk (by_ := 216) (k := 1) (n' := j + 1) (ms := [(⟨((l.getD (n - 1) default).epoch), (⟨2, 0, 0, ⟨#[]⟩, s, (⟨0, 0, 0, 0, dz⟩ : Claim)⟩ : Entry)⟩ : Item)]) (fun _ => rfl) rfl rfl (by kernel_rfl) rfl rfl (by have := hl14; omega) (by omega) (by decide) (by omega)) rfl (by kernel_rfl) ?_
  refine Zd rfl rfl (slv 2 0 (j + 1) (j + 1)) rfl (Zb (Zc (Zg (Zj (Zf rfl rfl (slv 2 0 (j + 1) (j + 1)) rfl (Zf rfl rfl (slv 0 0 n c) rfl (Zf rfl rfl (Iv (j : Nat)) rfl ?_)))))))
  refine Zch (p := slv 0 0 n c) (vl := some (Iv (j : Nat))) (vh := none) (v := slv 0 (j * 110) (n - j) (c - j)) rfl rfl rfl rfl rfl (Zix (sz := 110) (l := j) rfl rfl rfl (by omega) (by omega) (by omega) rfl (by omega) (by omega) (by omega)) ?_
  have hl16 : ((([] ++ (l.take j)) ++ [(⟨((l.getD (n - 1) default).epoch), (⟨2, 0, 0, ⟨#[]⟩, s, (⟨0, 0, 0, 0, dz⟩ : Claim)⟩ : Entry)⟩ : Item)]) ++ ((l.drop j).take (n - j))).length = n + 1 := by have := hl15; have := (by have := hn; rw [List.length_take, List.length_drop]; omega : ((l.drop j).take (n - j)).length = n - j); first | (rw [List.length_append]; omega) | (rw [List.length_append, List.length_take]; omega) | (simp; omega) | simp
  refine Zbo (p := slv 2 0 (j + 1) (j + 1)) (q := slv 0 (j * 110) (n - j) (c - j)) (v := slv 2 0 (n + 1) (n + 1)) (b := 2) (blk := rwB Zk ((([] ++ (l.take j)) ++ [(⟨((l.getD (n - 1) default).epoch), (⟨2, 0, 0, ⟨#[]⟩, s, (⟨0, 0, 0, 0, dz⟩ : Claim)⟩ : Entry)⟩ : Item)]) ++ ((l.drop j).take (n - j)))) (H' := [rwR Zk l, bxB 69 (Za s), rwB Zk ((([] ++ (l.take j)) ++ [(⟨((l.getD (n - 1) default).epoch), (⟨2, 0, 0, ⟨#[]⟩, s, (⟨0, 0, 0, 0, dz⟩ : Claim)⟩ : Entry)⟩ : Item)]) ++ ((l.drop j).take (n - j))), rwB Zk [(⟨((l.getD (n - 1) default).epoch), (⟨2, 0, 0, ⟨#[]⟩, s, (⟨0, 0, 0, 0, dz⟩ : Claim)⟩ : Entry)⟩ : Item)]]) rfl rfl rfl (.inl ⟨_, rfl⟩) rfl rfl (Zfi Zk (by_ := 216) (k := n - j) (n' := n + 1) (ms := ((l.drop j).take (n - j))) (fun _ => rfl) rfl rfl (Zpo Zk rfl rfl (by have := hn; omega)) rfl rfl (by have := hl15; omega) (by omega) (by decide) (by omega)) rfl (by kernel_rfl) ?_
  refine Zd rfl rfl (slv 2 0 (n + 1) (n + 1)) rfl (Zb (Zc (Zg (Zj (Zf rfl rfl (slv 2 0 (n + 1) (n + 1)) rfl (Zd rfl rfl (slv 2 0 (n + 1) (n + 1)) rfl (Zb (Zc (Zx (Zy ?_))))))))))
  rw [show Ze l j s = ((([] ++ (l.take j)) ++ [(⟨((l.getD (n - 1) default).epoch), (⟨2, 0, 0, ⟨#[]⟩, s, (⟨0, 0, 0, 0, dz⟩ : Claim)⟩ : Entry)⟩ : Item)]) ++ ((l.drop j).take (n - j))) from by first | exact Zpe (by omega) hj (by omega) | exact Zsl hn (by omega) (by omega) | exact Zrr hn (by omega) (by omega) hj]
  exact Za2 [0, 2] (v := slv 2 0 (n + 1) (n + 1)) rfl (by kernel_rfl) rfl rfl (by decide) (by simp [Za8, rwB, rwR, Zk]) ⟨rfl, rfl, rfl, by first | omega | exact Nat.le_refl _ | exact Nat.zero_le _ | (dsimp only; omega), by first | omega | exact Nat.le_refl _ | exact Nat.zero_le _ | (dsimp only; omega)⟩
  refine Zo (vx := Iv (n : Nat)) (vy := Iv 0) rfl rfl (.bool false) rfl rfl (Zek (by omega)) ?_
  refine Zb (Zc (Zz rfl (Z5 (Zc (Zg (Zj (Zd rfl rfl (.slice none 0 0) rfl (Zb (Zc (Zg ?_))))))))))
  refine Zby (Zbt.nilTmp (i := 8) (b := 2) true 110 rfl (by decide) rfl) ?_
  refine Zj (Zf rfl rfl (slv 2 0 0 0) rfl (Zf rfl rfl (slv 0 0 n c) rfl (Zf rfl rfl (Iv (j : Nat)) rfl ?_)))
  refine Zch (p := slv 0 0 n c) (vl := none) (vh := some (Iv (j : Nat))) (v := slv 0 0 j c) rfl rfl rfl rfl rfl (Zfz (h := j) rfl rfl (by omega) (by omega) rfl) ?_
  have hl17 : ([] ++ (l.take j)).length = j := by have := (by have := hn; rw [List.length_take]; omega : (l.take j).length = j); first | (rw [List.length_append]; omega) | (rw [List.length_append, List.length_take]; omega) | (simp; omega) | simp
  refine Zbo (p := slv 2 0 0 0) (q := slv 0 0 j c) (v := slv 2 0 j j) (b := 2) (blk := rwB Zk ([] ++ (l.take j))) (H' := [rwR Zk l, bxB 69 (Za s), rwB Zk ([] ++ (l.take j)), hole]) rfl rfl rfl (.inl ⟨_, rfl⟩) rfl rfl (Zfi Zk (by_ := 216) (k := j) (n' := j) (ms := (l.take j)) (fun _ => rfl) rfl rfl (Zp2 Zk rfl rfl (by have := hn; omega)) rfl rfl rfl (by omega) (by decide) (by omega)) rfl (by kernel_rfl) ?_
  refine Zd rfl rfl (slv 2 0 j j) rfl (Zb (Zc (Zg (Zj (Zf rfl rfl (slv 2 0 j j) rfl (Zf rfl rfl (Iv 1) rfl ?_))))))
  refine Zp (p := pt 1 0) (v := Zs s) rfl rfl rfl (by kernel_rfl) ?_
  refine Za1 (vs := [(0, Iv 2), (4, Zs s)]) (v := Zb0 (⟨2, 0, 0, ⟨#[]⟩, s, (⟨0, 0, 0, 0, dz⟩ : Claim)⟩ : Entry)) rfl rfl rfl (by kernel_rfl) ?_
  refine Za1 (vs := [(0, Iv 1), (1, Zb0 (⟨2, 0, 0, ⟨#[]⟩, s, (⟨0, 0, 0, 0, dz⟩ : Claim)⟩ : Entry))]) (v := Zay (⟨1, (⟨2, 0, 0, ⟨#[]⟩, s, (⟨0, 0, 0, 0, dz⟩ : Claim)⟩ : Entry)⟩ : Item)) rfl rfl rfl (by kernel_rfl) ?_
  refine Zdh (vs := [(0, Zay (⟨1, (⟨2, 0, 0, ⟨#[]⟩, s, (⟨0, 0, 0, 0, dz⟩ : Claim)⟩ : Entry)⟩ : Item))]) (v := slv 3 0 1 1) (blk := rwB Zk [(⟨1, (⟨2, 0, 0, ⟨#[]⟩, s, (⟨0, 0, 0, 0, dz⟩ : Claim)⟩ : Entry)⟩ : Item)]) (nid := 3) (H' := [rwR Zk l, bxB 69 (Za s), rwB Zk ([] ++ (l.take j)), rwB Zk [(⟨1, (⟨2, 0, 0, ⟨#[]⟩, s, (⟨0, 0, 0, 0, dz⟩ : Claim)⟩ : Entry)⟩ : Item)]]) rfl rfl rfl (by kernel_rfl) (by kernel_rfl) ?_
  have hl18 : (([] ++ (l.take j)) ++ [(⟨1, (⟨2, 0, 0, ⟨#[]⟩, s, (⟨0, 0, 0, 0, dz⟩ : Claim)⟩ : Entry)⟩ : Item)]).length = j + 1 := by have := hl17; have := (rfl : _ = 1); first | (rw [List.length_append]; omega) | (rw [List.length_append, List.length_take]; omega) | (simp; omega) | simp
  refine Zbo (p := slv 2 0 j j) (q := slv 3 0 1 1) (v := slv 2 0 (j + 1) (j + 1)) (b := 2) (blk := rwB Zk (([] ++ (l.take j)) ++ [(⟨1, (⟨2, 0, 0, ⟨#[]⟩, s, (⟨0, 0, 0, 0, dz⟩ : Claim)⟩ : Entry)⟩ : Item)])) (H' := [rwR Zk l, bxB 69 (Za s), rwB Zk (([] ++ (l.take j)) ++ [(⟨1, (⟨2, 0, 0, ⟨#[]⟩, s, (⟨0, 0, 0, 0, dz⟩ : Claim)⟩ : Entry)⟩ : Item)]), rwB Zk [(⟨1, (⟨2, 0, 0, ⟨#[]⟩, s, (⟨0, 0, 0, 0, dz⟩ : Claim)⟩ : Entry)⟩ : Item)]]) rfl rfl rfl (.inl ⟨_, rfl⟩) rfl rfl (Zfi Zk (by_ := 216) (k := 1) (n' := j + 1) (ms := [(⟨1, (⟨2, 0, 0, ⟨#[]⟩, s, (⟨0, 0, 0, 0, dz⟩ : Claim)⟩ : Entry)⟩ : Item)]) (fun _ => rfl) rfl rfl (by kernel_rfl) rfl rfl (by have := hl17; omega) (by omega) (by decide) (by omega)) rfl (by kernel_rfl) ?_
  refine Zd rfl rfl (slv 2 0 (j + 1) (j + 1)) rfl (Zb (Zc (Zg (Zj (Zf rfl rfl (slv 2 0 (j + 1) (j + 1)) rfl (Zf rfl rfl (slv 0 0 n c) rfl (Zf rfl rfl (Iv (j : Nat)) rfl ?_)))))))
  refine Zch (p := slv 0 0 n c) (vl := some (Iv (j : Nat))) (vh := none) (v := slv 0 (j * 110) (n - j) (c - j)) rfl rfl rfl rfl rfl (Zix (sz := 110) (l := j) rfl rfl rfl (by omega) (by omega) (by omega) rfl (by omega) (by omega) (by omega)) ?_
  have hl19 : ((([] ++ (l.take j)) ++ [(⟨1, (⟨2, 0, 0, ⟨#[]⟩, s, (⟨0, 0, 0, 0, dz⟩ : Claim)⟩ : Entry)⟩ : Item)]) ++ ((l.drop j).take (n - j))).length = n + 1 := by have := hl18; have := (by have := hn; rw [List.length_take, List.length_drop]; omega : ((l.drop j).take (n - j)).length = n - j); first | (rw [List.length_append]; omega) | (rw [List.length_append, List.length_take]; omega) | (simp; omega) | simp
  refine Zbo (p := slv 2 0 (j + 1) (j + 1)) (q := slv 0 (j * 110) (n - j) (c - j)) (v := slv 2 0 (n + 1) (n + 1)) (b := 2) (blk := rwB Zk ((([] ++ (l.take j)) ++ [(⟨1, (⟨2, 0, 0, ⟨#[]⟩, s, (⟨0, 0, 0, 0, dz⟩ : Claim)⟩ : Entry)⟩ : Item)]) ++ ((l.drop j).take (n - j)))) (H' := [rwR Zk l, bxB 69 (Za s), rwB Zk ((([] ++ (l.take j)) ++ [(⟨1, (⟨2, 0, 0, ⟨#[]⟩, s, (⟨0, 0, 0, 0, dz⟩ : Claim)⟩ : Entry)⟩ : Item)]) ++ ((l.drop j).take (n - j))), rwB Zk [(⟨1, (⟨2, 0, 0, ⟨#[]⟩, s, (⟨0, 0, 0, 0, dz⟩ : Claim)⟩ : Entry)⟩ : Item)]]) rfl rfl rfl (.inl ⟨_, rfl⟩) rfl rfl (Zfi Zk (by_ := 216) (k := n - j) (n' := n + 1) (ms := ((l.drop j).take (n - j))) (fun _ => rfl) rfl rfl (Zpo Zk rfl rfl (by have := hn; omega)) rfl rfl (by have := hl18; omega) (by omega) (by decide) (by omega)) rfl (by kernel_rfl) ?_
  refine Zd rfl rfl (slv 2 0 (n + 1) (n + 1)) rfl (Zb (Zc (Zg (Zj (Zf rfl rfl (slv 2 0 (n + 1) (n + 1)) rfl (Zd rfl rfl (slv 2 0 (n + 1) (n + 1)) rfl (Zb (Zc (Zx (Zy ?_))))))))))
  rw [show Ze l j s = ((([] ++ (l.take j)) ++ [(⟨1, (⟨2, 0, 0, ⟨#[]⟩, s, (⟨0, 0, 0, 0, dz⟩ : Claim)⟩ : Entry)⟩ : Item)]) ++ ((l.drop j).take (n - j))) from by first | exact Zpe (by omega) hj (by omega) | exact Zsl hn (by omega) (by omega) | exact Zrr hn (by omega) (by omega) hj]
  exact Za2 [0, 2] (v := slv 2 0 (n + 1) (n + 1)) rfl (by kernel_rfl) rfl rfl (by decide) (by simp [Za8, rwB, rwR, Zk]) ⟨rfl, rfl, rfl, by first | omega | exact Nat.le_refl _ | exact Nat.zero_le _ | (dsimp only; omega), by first | omega | exact Nat.le_refl _ | exact Nat.zero_le _ | (dsimp only; omega)⟩
theorem Zna (kk : Nat → BitVec 32) (hG : G 0 = some (Zad w32 64 kk)) (hG1 : G 2 = some (Zad u8N 64 dbF)) (master : D) (l : List Item) (n c : Nat) (hn : l.length = n) (hc : n ≤ c) (hb : n ≤ 1048576) (region : Int) : Zaf Tryd.prog G 14 [dgV master, slv 0 0 n c, Iv region] [rwR Zk l] (Zs (sgF kk master l n region)) [rwR Zk l] := by
  refine Zbj (fn := Tryd.f14) (nt := 26) rfl rfl rfl rfl ?_
  refine Zai 4 (H' := [rwR Zk l, hole, hole, hole, hole]) rfl ?_
  refine Zg (Zj ?_)
  refine Zcj (v := dgV master) (b := dgB master) (nid := 1) (H' := [rwR Zk l, dgB master, hole, hole, hole]) rfl rfl rfl (by kernel_rfl) (by kernel_rfl) ?_
  refine Z2 (b := bxB 69 (Za (⟨(⟨0, 0, 0, dz, 0⟩ : Head), 0, dz⟩ : Signed))) (nid := 2) (H' := [rwR Zk l, dgB master, bxB 69 (Za (⟨(⟨0, 0, 0, dz, 0⟩ : Head), 0, dz⟩ : Signed)), hole, hole]) rfl rfl (by kernel_rfl) (by kernel_rfl) ?_
  refine Zb (Zc (Zg (Zj (Zf rfl rfl (slv 0 0 n c) rfl (Zf rfl rfl (slv 0 0 n c) rfl ?_)))))
  refine Zbl (p := slv 0 0 n c) (v := Iv (n : Nat)) rfl rfl rfl rfl ?_
  refine Zf rfl rfl (Iv region) rfl ?_
  refine Z4 (e := [some (0, 0)]) (nid := 0) (Zs3 (G := G) kk hG hG1 l n c hn (by omega) (by omega) (n : Nat) region 1 1) (vals := [slv 0 0 n c, Iv (n : Nat), Iv region, Iv 1, Iv 1]) (v := .tuple #[Zbn ((Zab kk l (n : Nat) region 1 1).1), Iv ((Zab kk l (n : Nat) region 1 1).2)]) (H' := [rwR Zk l, dgB master, bxB 69 (Za (⟨(⟨0, 0, 0, dz, 0⟩ : Head), 0, dz⟩ : Signed)), hole, hole]) rfl rfl rfl rfl rfl rfl rfl ⟨⟨⟨rfl, rfl, rfl, by first | omega | exact Nat.le_refl _, by first | omega | exact Nat.le_refl _⟩, rfl, rfl, rfl, rfl, trivial⟩, ⟨(Zc0 rfl), trivial⟩, rfl, rfl, rfl⟩ (by kernel_rfl) (by kernel_rfl) ?_
  refine Zf rfl rfl (.tuple #[Zbn ((Zab kk l (n : Nat) region 1 1).1), Iv ((Zab kk l (n : Nat) region 1 1).2)]) rfl (Zu (vs := #[Zbn ((Zab kk l (n : Nat) region 1 1).1), Iv ((Zab kk l (n : Nat) region 1 1).2)]) (v := Zbn ((Zab kk l (n : Nat) region 1 1).1)) rfl rfl rfl rfl (Zu (vs := #[Zbn ((Zab kk l (n : Nat) region 1 1).1), Iv ((Zab kk l (n : Nat) region 1 1).2)]) (v := Iv ((Zab kk l (n : Nat) region 1 1).2)) rfl rfl rfl rfl ?_))
  refine Z2 (b := bxB 36 (Zbf (⟨0, 0, 0, dz, 0⟩ : Head))) (nid := 3) (H' := [rwR Zk l, dgB master, bxB 69 (Za (⟨(⟨0, 0, 0, dz, 0⟩ : Head), 0, dz⟩ : Signed)), bxB 36 (Zbf (⟨0, 0, 0, dz, 0⟩ : Head)), hole]) rfl rfl (by kernel_rfl) (by kernel_rfl) ?_
  refine Zw (p := pt 3 0) (v := Zbn ((Zab kk l (n : Nat) region 1 1).1)) (b := 3) (blk := bxB 36 (Zbf ((Zab kk l (n : Nat) region 1 1).1))) (H' := [rwR Zk l, dgB master, bxB 69 (Za (⟨(⟨0, 0, 0, dz, 0⟩ : Head), 0, dz⟩ : Signed)), bxB 36 (Zbf ((Zab kk l (n : Nat) region 1 1).1)), hole]) rfl rfl rfl (by kernel_rfl) (by kernel_rfl) ?_
  refine Zd rfl rfl (Iv ((Zab kk l (n : Nat) region 1 1).2)) rfl (Zb (Zc (Zg (Zj ?_))))
  refine Zp (p := pt 1 0) (v := dgV master) rfl rfl rfl (by kernel_rfl) ?_
  refine Zp (p := pt 3 0) (v := Zbn ((Zab kk l (n : Nat) region 1 1).1)) rfl rfl rfl (by kernel_rfl) ?_
  refine Zt (Zt1 (G := G) kk hG master ((Zab kk l (n : Nat) region 1 1).1) 1) (vals := [dgV master, Zbn ((Zab kk l (n : Nat) region 1 1).1), Iv 1]) (res' := .tuple #[Zs ((Zaz kk master ((Zab kk l (n : Nat) region 1 1).1) 1).1), Iv ((Zaz kk master ((Zab kk l (n : Nat) region 1 1).1) 1).2)]) rfl rfl rfl rfl rfl (by kernel_rfl) ?_
  refine Zf rfl rfl (.tuple #[Zs ((Zaz kk master ((Zab kk l (n : Nat) region 1 1).1) 1).1), Iv ((Zaz kk master ((Zab kk l (n : Nat) region 1 1).1) 1).2)]) rfl (Zu (vs := #[Zs ((Zaz kk master ((Zab kk l (n : Nat) region 1 1).1) 1).1), Iv ((Zaz kk master ((Zab kk l (n : Nat) region 1 1).1) 1).2)]) (v := Zs ((Zaz kk master ((Zab kk l (n : Nat) region 1 1).1) 1).1)) rfl rfl rfl rfl (Zu (vs := #[Zs ((Zaz kk master ((Zab kk l (n : Nat) region 1 1).1) 1).1), Iv ((Zaz kk master ((Zab kk l (n : Nat) region 1 1).1) 1).2)]) (v := Iv ((Zaz kk master ((Zab kk l (n : Nat) region 1 1).1) 1).2)) rfl rfl rfl rfl ?_))
  refine Z2 (b := bxB 69 (Za (⟨(⟨0, 0, 0, dz, 0⟩ : Head), 0, dz⟩ : Signed))) (nid := 4) (H' := [rwR Zk l, dgB master, bxB 69 (Za (⟨(⟨0, 0, 0, dz, 0⟩ : Head), 0, dz⟩ : Signed)), bxB 36 (Zbf ((Zab kk l (n : Nat) region 1 1).1)), bxB 69 (Za (⟨(⟨0, 0, 0, dz, 0⟩ : Head), 0, dz⟩ : Signed))]) rfl rfl (by kernel_rfl) (by kernel_rfl) ?_
  refine Zw (p := pt 4 0) (v := Zs ((Zaz kk master ((Zab kk l (n : Nat) region 1 1).1) 1).1)) (b := 4) (blk := bxB 69 (Za ((Zaz kk master ((Zab kk l (n : Nat) region 1 1).1) 1).1))) (H' := [rwR Zk l, dgB master, bxB 69 (Za (⟨(⟨0, 0, 0, dz, 0⟩ : Head), 0, dz⟩ : Signed)), bxB 36 (Zbf ((Zab kk l (n : Nat) region 1 1).1)), bxB 69 (Za ((Zaz kk master ((Zab kk l (n : Nat) region 1 1).1) 1).1))]) rfl rfl rfl (by kernel_rfl) (by kernel_rfl) ?_
  refine Zd rfl rfl (Iv ((Zaz kk master ((Zab kk l (n : Nat) region 1 1).1) 1).2)) rfl (Zb (Zc (Zg (Zj ?_))))
  refine Zp (p := pt 4 0) (v := Zs ((Zaz kk master ((Zab kk l (n : Nat) region 1 1).1) 1).1)) rfl rfl rfl (by kernel_rfl) ?_
  refine Zw (p := pt 2 0) (v := Zs ((Zaz kk master ((Zab kk l (n : Nat) region 1 1).1) 1).1)) (b := 2) (blk := bxB 69 (Za ((Zaz kk master ((Zab kk l (n : Nat) region 1 1).1) 1).1))) (H' := [rwR Zk l, dgB master, bxB 69 (Za ((Zaz kk master ((Zab kk l (n : Nat) region 1 1).1) 1).1)), bxB 36 (Zbf ((Zab kk l (n : Nat) region 1 1).1)), bxB 69 (Za ((Zaz kk master ((Zab kk l (n : Nat) region 1 1).1) 1).1))]) rfl rfl rfl (by kernel_rfl) (by kernel_rfl) ?_
  refine Zb (Zc (Zx (Zy ?_)))
  exact Zq (v := Zs ((Zaz kk master ((Zab kk l (n : Nat) region 1 1).1) 1).1)) (by kernel_rfl) rfl rfl (by simp [Za8, rwR, Zk]) (Zcs (by kernel_rfl) rfl)
end Go.Flat
