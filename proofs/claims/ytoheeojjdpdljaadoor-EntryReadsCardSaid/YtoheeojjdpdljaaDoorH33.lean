/- Walks. -/
import Derived.Test.YtoheeojjdpdljaaDoorH31
set_option linter.unusedVariables false
set_option linter.unusedSimpArgs false
set_option maxRecDepth 20000
namespace Go.Flat
open Go.Proofs
variable {G : Glob}
def Zft : Bs → Nat → Nat
  | [], v => v
  | x :: l, v => Zft l (256 * v + x.toNat)
theorem Zkt : ∀ (l : Bs) (v : Nat), v ≤ Zft l v
 | [], v => Nat.le_refl _
 | x :: l, v => by rw [Zft]; have := Zkt l (256 * v + x.toNat); omega
theorem Zpn : ∀ (l : Bs) (v : Nat), Zft l v ≤ 4611686018427387903 → Ze5 l v = ((Zft l v : Int), 0)
 | [], v, _ => rfl
 | x :: l, v, h => by
  rw [Zft] at h
  have := Zkt l (256 * v + x.toNat)
  rw [Ze5, if_neg (by omega), show v * 256 + x.toNat = 256 * v + x.toNat by omega, Zpn l _ h]; rfl
theorem Zu4 : ∀ (l : Bs) (v : Nat), v ≤ 4611686018427387903 → 4611686018427387903 < Zft l v → Ze5 l v = (0, 11)
 | [], v, h, h2 => absurd h2 (by rw [Zft]; omega)
 | x :: l, v, h, h2 => by
  rw [Zft] at h2
  have hx := x.isLt
  rw [Ze5]
  split
  ·rfl
  ·rw [show v * 256 + x.toNat = 256 * v + x.toNat by omega]
   exact Zu4 l _ (by omega) h2
theorem Zw2 : ∀ (l : Bs) (v : Nat), Zft l v < (v + 1) * 256 ^ l.length
 | [], v => by simp [Zft]
 | x :: l, v => by
  have hx := x.isLt
  have h := Zw2 l (256 * v + x.toNat)
  rw [Zft, List.length_cons, Nat.pow_succ]
  refine Nat.lt_of_lt_of_le h ?_
  rw [Nat.mul_comm (256 ^ l.length) 256, ← Nat.mul_assoc]
  exact Nat.mul_le_mul_right _ (by omega)
theorem Zwl : ∀ (l : Bs) (v : Nat), v * 256 ^ l.length ≤ Zft l v
 | [], v => by simp [Zft]
 | x :: l, v => by
  have h := Zwl l (256 * v + x.toNat)
  rw [Zft, List.length_cons, Nat.pow_succ]
  refine Nat.le_trans ?_ h
  rw [Nat.mul_comm (256 ^ l.length) 256, ← Nat.mul_assoc]
  exact Nat.mul_le_mul_right _ (by omega)
theorem Zhq {s : ByteArray} (h1 : s.size ≤ 8) (h2 : 1 ≤ s.size → ((bl s).getD 0 0 == 0#8) = false) (h3 : s.size = 8 → ((bl s).getD 0 0).toNat < 64) : Zq s = ((Zft (bl s) 0 : Int), 0) ∧ Zft (bl s) 0 ≤ 4611686018427387903 := by
 have hN : Zft (bl s) 0 ≤ 4611686018427387903 := by
  rw [← Zb5] at h1 h2 h3
  generalize bl s = l at *
  match l, h1, h2, h3 with
  | [], _, _, _ => decide
  | x :: r, h1, h2, h3 =>
   have hx := x.isLt
   have hh := Zw2 r (256 * 0 + x.toNat)
   rw [Zft]
   simp only [List.length_cons] at h1 h3
   rcases Nat.lt_or_ge r.length 7 with q | q
   ·have hp : 256 ^ r.length ≤ 256 ^ 6 := Nat.pow_le_pow_right (by decide) (by omega)
    have : (256 * 0 + x.toNat + 1) * 256 ^ r.length ≤ 256 * 256 ^ 6 := Nat.mul_le_mul (by omega) hp
    have e : 256 * 256 ^ 6 = 72057594037927936 := by decide
    omega
   ·have e7 : r.length = 7 := by omega
    have hx2 : x.toNat < 64 := h3 (by omega)
    have : (256 * 0 + x.toNat + 1) * 256 ^ r.length ≤ 64 * 256 ^ 7 := Nat.mul_le_mul (by omega) (by rw [e7]; exact Nat.le_refl _)
    have e : 64 * 256 ^ 7 = 4611686018427387904 := by decide
    omega
 refine ⟨?_, hN⟩
 exact Zmw h1 h2 (Zpn _ _ hN)
theorem Zop {s : ByteArray} (h : s.size = 8) (h2 : 64 ≤ ((bl s).getD 0 0).toNat) : Zq s = (0, 11) := by
 unfold Zq
 split
 ·rfl
 ·rw [← Zb5] at h
  generalize bl s = l at *
  match l, h, h2 with
  | x :: r, h, h2 =>
   have hl := Zwl r (256 * 0 + x.toNat)
   have e7 : r.length = 7 := by simpa using h
   have hx : 64 ≤ x.toNat := h2
   have : 64 * 256 ^ 7 ≤ (256 * 0 + x.toNat) * 256 ^ r.length := Nat.mul_le_mul (by omega) (by rw [e7]; exact Nat.le_refl _)
   have e : 64 * 256 ^ 7 = 4611686018427387904 := by decide
   exact Zu4 _ _ (by omega) (by rw [Zft]; omega)
theorem Zrg {l : Bs} {j v R : Nat} (hR : Zft (l.drop j) v = R) (hj : j < l.length) : Zft (l.drop (j + 1)) (256 * v + (l.getD j 0).toNat) = R ∧ 256 * v + (l.getD j 0).toNat ≤ R := by
 rw [List.drop_eq_getElem_cons hj, Zft] at hR
 have e : l.getD j 0 = l[j] := by rw [List.getD_eq_getElem?_getD, List.getElem?_eq_getElem hj]; rfl
 rw [e]
 exact ⟨hR, by rw [← hR]; exact Zkt _ _⟩
def vR (s : ByteArray) : Int := if (Zq s).2 ≠ 0 then -1 else (Zq s).1
def Zys (s : ByteArray) (i : Nat) : D := fun k => if k < i then (bl s).getD k 0 else 0
theorem Zyr {s : ByteArray} {i : Nat} : Zha (Zys s i) i ((bl s).getD i 0) = Zys s (i + 1) := by
 funext k
 unfold Zha Zys
 by_cases h : k = i
 ·subst h; simp
 ·rcases Nat.lt_or_ge k i with q | q
  ·simp [h, q, Nat.lt_succ_of_lt q]
  ·simp [h]; rw [if_neg (by omega), if_neg (by omega)]
theorem Zx4 (s : ByteArray) : Zys s 0 = dz := by funext k; unfold Zys; rw [if_neg (by omega)]; rfl
def Zav (s : ByteArray) : D × Bool := if s.size = 32 then (cpD s, true) else (dz, false)
theorem Zza (s : ByteArray) : Zao Tryd.prog G 80 [.string s] [] (.tuple #[Iv (Zq s).1, Iv (Zq s).2]) [] := by
  refine Zbv (fn := Tryd.f80) (nt := 43) rfl rfl rfl rfl ?_
  refine Zg (Zi (Zb rfl rfl (Iv 0) rfl (Zb rfl rfl (Iv 0) rfl (Za (Zc (Zg (Zg (Zi (Zd rfl rfl (.string s) rfl ?_)))))))))
  refine Zb7 (p := .string s) (v := Iv (s.size : Nat)) rfl rfl rfl rfl ?_
  by_cases h1 : 8 < (s.size : Nat)
  refine Zn (vx := Iv (s.size : Nat)) (vy := Iv 8) rfl rfl (.bool true) rfl rfl (Zf1 (by omega)) ?_
  refine Zd rfl rfl (.bool true) rfl (Zf rfl rfl (Zf rfl rfl (Zf rfl rfl (Zf rfl rfl (Zf rfl rfl (Zf rfl rfl (Zf rfl rfl (Zf rfl rfl (Zk rfl rfl (.bool true) rfl (Zd rfl rfl (.bool true) rfl (Zf rfl rfl (Zf rfl rfl (Zf rfl rfl (Zf rfl rfl (Zf rfl rfl (Zf rfl rfl (Zf rfl rfl (Zf rfl rfl (Zk rfl rfl (.bool true) rfl (Za (Zc (Z0 rfl (Zg (Zi (Zb rfl rfl (Iv 0) rfl (Zb rfl rfl (Iv 11) rfl (Za (Zc (Zv (Z5 (Zu ?_)))))))))))))))))))))))))))))))
  rw [show Zq s = (0, 11) from by first | (exact Zop (by omega) (by omega)) | (exact Zg1 (.inl (by omega))) | (exact Zg1 (.inr ⟨by omega, by first | assumption | simpa using ‹_›⟩))]
  exact Zm (v := .tuple #[Iv 0, Iv 11]) rfl rfl rfl (by kernel_rfl) ⟨rfl, rfl, trivial⟩
  refine Zn (vx := Iv (s.size : Nat)) (vy := Iv 8) rfl rfl (.bool false) rfl rfl (Zf8 (by omega)) ?_
  refine Zd rfl rfl (.bool false) rfl (Zd rfl rfl (.string s) rfl ?_)
  refine Zb7 (p := .string s) (v := Iv (s.size : Nat)) rfl rfl rfl rfl ?_
  by_cases h2 : 0 < (s.size : Nat)
  refine Zn (vx := Iv (s.size : Nat)) (vy := Iv 0) rfl rfl (.bool true) rfl rfl (Zf1 (by omega)) ?_
  refine Zd rfl rfl (.bool true) rfl (Zd rfl rfl (.string s) rfl ?_)
  refine Zi4 (p := .string s) (i := Iv 0) (v := w8 ((bl s).getD 0 0)) rfl rfl rfl rfl (Zho rfl (by omega) (by omega)) ?_
  rcases Bool.eq_false_or_eq_true (((bl s).getD 0 0) == 0#8) with h3 | h3
  refine Zn (vx := w8 ((bl s).getD 0 0)) (vy := w8 (0#8)) rfl rfl (.bool true) rfl rfl (Eq.trans Ztw (by rw [h3] <;> rfl)) ?_
  refine Zk rfl rfl (.bool true) rfl (Zk rfl rfl (.bool true) rfl (Zd rfl rfl (.bool true) rfl (Zf rfl rfl (Zf rfl rfl (Zf rfl rfl (Zf rfl rfl (Zf rfl rfl (Zf rfl rfl (Zf rfl rfl (Zf rfl rfl (Zk rfl rfl (.bool true) rfl (Za (Zc (Z0 rfl (Zg (Zi (Zb rfl rfl (Iv 0) rfl (Zb rfl rfl (Iv 11) rfl (Za (Zc (Zv (Z5 (Zu ?_)))))))))))))))))))))))
  rw [show Zq s = (0, 11) from by first | (exact Zop (by omega) (by omega)) | (exact Zg1 (.inl (by omega))) | (exact Zg1 (.inr ⟨by omega, by first | assumption | simpa using ‹_›⟩))]
  exact Zm (v := .tuple #[Iv 0, Iv 11]) rfl rfl rfl (by kernel_rfl) ⟨rfl, rfl, trivial⟩
  refine Zn (vx := w8 ((bl s).getD 0 0)) (vy := w8 (0#8)) rfl rfl (.bool false) rfl rfl (Eq.trans Ztw (by rw [h3] <;> rfl)) ?_
  refine Zk rfl rfl (.bool false) rfl (Zk rfl rfl (.bool false) rfl (Zd rfl rfl (.bool false) rfl (Zd rfl rfl (.string s) rfl ?_)))
  refine Zb7 (p := .string s) (v := Iv (s.size : Nat)) rfl rfl rfl rfl ?_
  by_cases h4 : (s.size : Nat) = 8
  refine Zn (vx := Iv (s.size : Nat)) (vy := Iv 8) rfl rfl (.bool true) rfl rfl (Zbs (by omega)) ?_
  refine Zd rfl rfl (.bool true) rfl (Zd rfl rfl (.string s) rfl ?_)
  refine Zi4 (p := .string s) (i := Iv 0) (v := w8 ((bl s).getD 0 0)) rfl rfl rfl rfl (Zho rfl (by omega) (by omega)) ?_
  by_cases h5 : 64 ≤ (((((bl s).getD 0 0).toNat) : Nat) : Int)
  refine Zn (vx := w8 ((bl s).getD 0 0)) (vy := w8 (64#8)) rfl rfl (.bool true) rfl rfl (Zq2 (by show 64 ≤ (((((bl s).getD 0 0).toNat) : Nat) : Int); omega)) ?_
  refine Zk rfl rfl (.bool true) rfl (Zk rfl rfl (.bool true) rfl (Za (Zc (Z0 rfl (Zg (Zi (Zb rfl rfl (Iv 0) rfl (Zb rfl rfl (Iv 11) rfl (Za (Zc (Zv (Z5 (Zu ?_)))))))))))))
  rw [show Zq s = (0, 11) from by first | (exact Zop (by omega) (by omega)) | (exact Zg1 (.inl (by omega))) | (exact Zg1 (.inr ⟨by omega, by first | assumption | simpa using ‹_›⟩))]
  exact Zm (v := .tuple #[Iv 0, Iv 11]) rfl rfl rfl (by kernel_rfl) ⟨rfl, rfl, trivial⟩
  refine Zn (vx := w8 ((bl s).getD 0 0)) (vy := w8 (64#8)) rfl rfl (.bool false) rfl rfl (Zrb (by show ¬ (64 ≤ (((((bl s).getD 0 0).toNat) : Nat) : Int)); omega)) ?_
  refine Zk rfl rfl (.bool false) rfl (Zk rfl rfl (.bool false) rfl (Za (Zc (Zx rfl (Zai (Zc (Zg ?_)))))))
  have hN := (Zhq (s := s) (by omega) (by first | assumption | (intro; first | assumption | omega)) (by intro; omega)).2
  refine Zi (Zb rfl rfl (Iv 0) rfl (Za (Zc (Zg (Zg (Zi (Zb rfl rfl (Iv 0) rfl (Za (Zc (Zap ?_))))))))))
  refine Zb8 (fun x : Nat × Nat => match x with | (j, v) => [.string s, dead, Iv 0, Iv 0, Iv (v : Nat), Iv (j : Nat), .string s, Iv (s.size : Nat), .bool false, .bool false, .string s, Iv (s.size : Nat), .bool true, .bool true, .string s, w8 ((bl s).getD 0 0), .bool false, .bool false, .bool false, .bool false, .string s, Iv (s.size : Nat), .bool true, .bool true, .string s, w8 ((bl s).getD 0 0), .bool false, .bool false, .bool false]) (fun x : Nat × Nat => match x with | (j, v) => []) (fun x : Nat × Nat => match x with | (j, v) => Zft ((bl s).drop j) v = Zft (bl s) 0 ∧ j ≤ s.size) (fun x : Nat × Nat => match x with | (j, v) => s.size - j) (0, 0) ⟨rfl, by omega⟩ ?_ ?_
  · refine Zaq (n := 0) rfl ?_ (by kernel_rfl) (by kernel_rfl)
    repeat (first | exact trivial | refine ⟨.inl rfl, ?_⟩ | refine ⟨.inr ⟨rfl, rfl⟩, ?_⟩ | refine ⟨.inr ⟨congrArg (Value.int .i64) (by first | omega | (dsimp only; omega)), rfl⟩, ?_⟩)
  rintro ⟨j, v⟩ ⟨hR, hj⟩
  dsimp only at *
  have hv0 : v ≤ 4611686018427387903 := by have := Zkt ((bl s).drop j) v; omega
  refine Zg (Zg (Zi (Zd rfl rfl (Iv (j : Nat)) rfl (Zd rfl rfl (.string s) rfl ?_))))
  refine Zb7 (p := .string s) (v := Iv (s.size : Nat)) rfl rfl rfl rfl ?_
  by_cases h6 : (j : Nat) < (s.size : Nat)
  refine Zn (vx := Iv (j : Nat)) (vy := Iv (s.size : Nat)) rfl rfl (.bool true) rfl rfl (Zdt (by omega)) ?_
  refine Za (Zc (Z0 rfl (Zai (Zc (Zg (Zap ?_))))))
  have hvs := Zrg hR (by rw [Zb5]; omega)
  refine Zi (Zd rfl rfl (Iv (v : Nat)) rfl ?_)
  refine Zn (vx := Iv 256) (vy := Iv (v : Nat)) rfl rfl (Iv (256 * (v : Nat))) rfl rfl (Zkz (by omega) (by omega) (by omega)) ?_
  refine Zd rfl rfl (.string s) rfl (Zd rfl rfl (Iv (j : Nat)) rfl ?_)
  refine Zi4 (p := .string s) (i := Iv (j : Nat)) (v := w8 ((bl s).getD j 0)) rfl rfl rfl rfl (Zho rfl (by omega) (by omega)) ?_
  have hw3 := BitVec.isLt ((bl s).getD j 0)
  refine Zdb (w := w8 ((bl s).getD j 0)) (v := Iv (((((bl s).getD j 0).toNat) : Nat) : Int)) rfl rfl rfl (Zju rfl rfl (by have := ((bl s).getD j 0).isLt; omega) (by have := ((bl s).getD j 0).isLt; omega)) ?_
  refine Zn (vx := Iv (256 * (v : Nat))) (vy := Iv (((((bl s).getD j 0).toNat) : Nat) : Int)) rfl rfl (Iv (256 * (v : Nat) + (((((bl s).getD j 0).toNat) : Nat) : Int))) rfl rfl (Za7 (by omega) (by omega) (by omega)) ?_
  refine Zb rfl rfl (Iv (256 * (v : Nat) + (((((bl s).getD j 0).toNat) : Nat) : Int))) rfl (Za (Z1 (Zc (Zi (Zd rfl rfl (Iv (j : Nat)) rfl ?_)))))
  refine Zn (vx := Iv (j : Nat)) (vy := Iv 1) rfl rfl (Iv ((j : Nat) + 1)) rfl rfl (Za7 (by omega) (by omega) (by omega)) ?_
  refine Zb rfl rfl (Iv ((j : Nat) + 1)) rfl (Za ?_)
  refine Zau ⟨((j + 1), (256 * v + (((bl s).getD j 0).toNat))), ⟨hvs.1, by omega⟩, by show s.size - (j + 1) < s.size - j; omega, ?_⟩
  refine Zaq (n := 0) rfl ?_ (by kernel_rfl) (by kernel_rfl)
  repeat (first | exact trivial | refine ⟨.inl rfl, ?_⟩ | refine ⟨.inr ⟨rfl, rfl⟩, ?_⟩ | refine ⟨.inr ⟨congrArg (Value.int .i64) (by first | omega | (dsimp only; omega)), rfl⟩, ?_⟩)
  refine Zn (vx := Iv (j : Nat)) (vy := Iv (s.size : Nat)) rfl rfl (.bool false) rfl rfl (Zdh (by omega)) ?_
  refine Za (Zc (Zx rfl (Zce (Zbj (Zbo (Zbp rfl (Zc (Zg (Zi (Zd rfl rfl (Iv (v : Nat)) rfl (Zb rfl rfl (Iv (v : Nat)) rfl (Zb rfl rfl (Iv 0) rfl (Za (Zc (Zv (Zu ?_))))))))))))))))
  rw [(Zhq (s := s) (by omega) (by first | assumption | (intro; first | assumption | omega)) (by intro; omega)).1, show Zft (bl s) 0 = v from by rw [← hR, List.drop_of_length_le (by rw [Zb5]; omega)]; rfl]
  exact Zm (v := .tuple #[Iv (v : Nat), Iv 0]) rfl rfl rfl (by kernel_rfl) ⟨rfl, rfl, trivial⟩
  refine Zn (vx := Iv (s.size : Nat)) (vy := Iv 8) rfl rfl (.bool false) rfl rfl (Zb6 (by omega)) ?_
  refine Zd rfl rfl (.bool false) rfl (Zf rfl rfl (Zf rfl rfl (Zf rfl rfl (Zk rfl rfl (.bool false) rfl (Zk rfl rfl (.bool false) rfl (Za (Zc (Zx rfl (Zai (Zc (Zg ?_)))))))))))
  have hN := (Zhq (s := s) (by omega) (by first | assumption | (intro; first | assumption | omega)) (by intro; omega)).2
  refine Zi (Zb rfl rfl (Iv 0) rfl (Za (Zc (Zg (Zg (Zi (Zb rfl rfl (Iv 0) rfl (Za (Zc (Zap ?_))))))))))
  refine Zb8 (fun x : Nat × Nat => match x with | (j, v) => [.string s, dead, Iv 0, Iv 0, Iv (v : Nat), Iv (j : Nat), .string s, Iv (s.size : Nat), .bool false, .bool false, .string s, Iv (s.size : Nat), .bool true, .bool true, .string s, w8 ((bl s).getD 0 0), .bool false, .bool false, .bool false, .bool false, .string s, Iv (s.size : Nat), .bool false, .bool false, dead, dead, dead, .bool false, .bool false]) (fun x : Nat × Nat => match x with | (j, v) => []) (fun x : Nat × Nat => match x with | (j, v) => Zft ((bl s).drop j) v = Zft (bl s) 0 ∧ j ≤ s.size) (fun x : Nat × Nat => match x with | (j, v) => s.size - j) (0, 0) ⟨rfl, by omega⟩ ?_ ?_
  · refine Zaq (n := 0) rfl ?_ (by kernel_rfl) (by kernel_rfl)
    repeat (first | exact trivial | refine ⟨.inl rfl, ?_⟩ | refine ⟨.inr ⟨rfl, rfl⟩, ?_⟩ | refine ⟨.inr ⟨congrArg (Value.int .i64) (by first | omega | (dsimp only; omega)), rfl⟩, ?_⟩)
  rintro ⟨j, v⟩ ⟨hR, hj⟩
  dsimp only at *
  have hv0 : v ≤ 4611686018427387903 := by have := Zkt ((bl s).drop j) v; omega
  refine Zg (Zg (Zi (Zd rfl rfl (Iv (j : Nat)) rfl (Zd rfl rfl (.string s) rfl ?_))))
  refine Zb7 (p := .string s) (v := Iv (s.size : Nat)) rfl rfl rfl rfl ?_
  by_cases h7 : (j : Nat) < (s.size : Nat)
  refine Zn (vx := Iv (j : Nat)) (vy := Iv (s.size : Nat)) rfl rfl (.bool true) rfl rfl (Zdt (by omega)) ?_
  refine Za (Zc (Z0 rfl (Zai (Zc (Zg (Zap ?_))))))
  have hvs := Zrg hR (by rw [Zb5]; omega)
  refine Zi (Zd rfl rfl (Iv (v : Nat)) rfl ?_)
  refine Zn (vx := Iv 256) (vy := Iv (v : Nat)) rfl rfl (Iv (256 * (v : Nat))) rfl rfl (Zkz (by omega) (by omega) (by omega)) ?_
  refine Zd rfl rfl (.string s) rfl (Zd rfl rfl (Iv (j : Nat)) rfl ?_)
  refine Zi4 (p := .string s) (i := Iv (j : Nat)) (v := w8 ((bl s).getD j 0)) rfl rfl rfl rfl (Zho rfl (by omega) (by omega)) ?_
  have hw4 := BitVec.isLt ((bl s).getD j 0)
  refine Zdb (w := w8 ((bl s).getD j 0)) (v := Iv (((((bl s).getD j 0).toNat) : Nat) : Int)) rfl rfl rfl (Zju rfl rfl (by have := ((bl s).getD j 0).isLt; omega) (by have := ((bl s).getD j 0).isLt; omega)) ?_
  refine Zn (vx := Iv (256 * (v : Nat))) (vy := Iv (((((bl s).getD j 0).toNat) : Nat) : Int)) rfl rfl (Iv (256 * (v : Nat) + (((((bl s).getD j 0).toNat) : Nat) : Int))) rfl rfl (Za7 (by omega) (by omega) (by omega)) ?_
  refine Zb rfl rfl (Iv (256 * (v : Nat) + (((((bl s).getD j 0).toNat) : Nat) : Int))) rfl (Za (Z1 (Zc (Zi (Zd rfl rfl (Iv (j : Nat)) rfl ?_)))))
  refine Zn (vx := Iv (j : Nat)) (vy := Iv 1) rfl rfl (Iv ((j : Nat) + 1)) rfl rfl (Za7 (by omega) (by omega) (by omega)) ?_
  refine Zb rfl rfl (Iv ((j : Nat) + 1)) rfl (Za ?_)
  refine Zau ⟨((j + 1), (256 * v + (((bl s).getD j 0).toNat))), ⟨hvs.1, by omega⟩, by show s.size - (j + 1) < s.size - j; omega, ?_⟩
  refine Zaq (n := 0) rfl ?_ (by kernel_rfl) (by kernel_rfl)
  repeat (first | exact trivial | refine ⟨.inl rfl, ?_⟩ | refine ⟨.inr ⟨rfl, rfl⟩, ?_⟩ | refine ⟨.inr ⟨congrArg (Value.int .i64) (by first | omega | (dsimp only; omega)), rfl⟩, ?_⟩)
  refine Zn (vx := Iv (j : Nat)) (vy := Iv (s.size : Nat)) rfl rfl (.bool false) rfl rfl (Zdh (by omega)) ?_
  refine Za (Zc (Zx rfl (Zce (Zbj (Zbo (Zbp rfl (Zc (Zg (Zi (Zd rfl rfl (Iv (v : Nat)) rfl (Zb rfl rfl (Iv (v : Nat)) rfl (Zb rfl rfl (Iv 0) rfl (Za (Zc (Zv (Zu ?_))))))))))))))))
  rw [(Zhq (s := s) (by omega) (by first | assumption | (intro; first | assumption | omega)) (by intro; omega)).1, show Zft (bl s) 0 = v from by rw [← hR, List.drop_of_length_le (by rw [Zb5]; omega)]; rfl]
  exact Zm (v := .tuple #[Iv (v : Nat), Iv 0]) rfl rfl rfl (by kernel_rfl) ⟨rfl, rfl, trivial⟩
  refine Zn (vx := Iv (s.size : Nat)) (vy := Iv 0) rfl rfl (.bool false) rfl rfl (Zf8 (by omega)) ?_
  refine Zd rfl rfl (.bool false) rfl (Zf rfl rfl (Zf rfl rfl (Zf rfl rfl (Zk rfl rfl (.bool false) rfl (Zk rfl rfl (.bool false) rfl (Zd rfl rfl (.bool false) rfl (Zd rfl rfl (.string s) rfl ?_)))))))
  refine Zb7 (p := .string s) (v := Iv (s.size : Nat)) rfl rfl rfl rfl ?_
  refine Zn (vx := Iv (s.size : Nat)) (vy := Iv 8) rfl rfl (.bool false) rfl rfl (Zb6 (by omega)) ?_
  refine Zd rfl rfl (.bool false) rfl (Zf rfl rfl (Zf rfl rfl (Zf rfl rfl (Zk rfl rfl (.bool false) rfl (Zk rfl rfl (.bool false) rfl (Za (Zc (Zx rfl (Zai (Zc (Zg ?_)))))))))))
  have hN := (Zhq (s := s) (by omega) (by first | assumption | (intro; first | assumption | omega)) (by intro; omega)).2
  refine Zi (Zb rfl rfl (Iv 0) rfl (Za (Zc (Zg (Zg (Zi (Zb rfl rfl (Iv 0) rfl (Za (Zc (Zap ?_))))))))))
  refine Zb8 (fun x : Nat × Nat => match x with | (j, v) => [.string s, dead, Iv 0, Iv 0, Iv (v : Nat), Iv (j : Nat), .string s, Iv (s.size : Nat), .bool false, .bool false, .string s, Iv (s.size : Nat), .bool false, .bool false, dead, dead, dead, .bool false, .bool false, .bool false, .string s, Iv (s.size : Nat), .bool false, .bool false, dead, dead, dead, .bool false, .bool false]) (fun x : Nat × Nat => match x with | (j, v) => []) (fun x : Nat × Nat => match x with | (j, v) => Zft ((bl s).drop j) v = Zft (bl s) 0 ∧ j ≤ s.size) (fun x : Nat × Nat => match x with | (j, v) => s.size - j) (0, 0) ⟨rfl, by omega⟩ ?_ ?_
  · refine Zaq (n := 0) rfl ?_ (by kernel_rfl) (by kernel_rfl)
    repeat (first | exact trivial | refine ⟨.inl rfl, ?_⟩ | refine ⟨.inr ⟨rfl, rfl⟩, ?_⟩ | refine ⟨.inr ⟨congrArg (Value.int .i64) (by first | omega | (dsimp only; omega)), rfl⟩, ?_⟩)
  rintro ⟨j, v⟩ ⟨hR, hj⟩
  dsimp only at *
  have hv0 : v ≤ 4611686018427387903 := by have := Zkt ((bl s).drop j) v; omega
  refine Zg (Zg (Zi (Zd rfl rfl (Iv (j : Nat)) rfl (Zd rfl rfl (.string s) rfl ?_))))
  refine Zb7 (p := .string s) (v := Iv (s.size : Nat)) rfl rfl rfl rfl ?_
  refine Zn (vx := Iv (j : Nat)) (vy := Iv (s.size : Nat)) rfl rfl (.bool false) rfl rfl (Zdh (by omega)) ?_
  refine Za (Zc (Zx rfl (Zce (Zbj (Zbo (Zbp rfl (Zc (Zg (Zi (Zd rfl rfl (Iv (v : Nat)) rfl (Zb rfl rfl (Iv (v : Nat)) rfl (Zb rfl rfl (Iv 0) rfl (Za (Zc (Zv (Zu ?_))))))))))))))))
  rw [(Zhq (s := s) (by omega) (by first | assumption | (intro; first | assumption | omega)) (by intro; omega)).1, show Zft (bl s) 0 = v from by rw [← hR, List.drop_of_length_le (by rw [Zb5]; omega)]; rfl]
  exact Zm (v := .tuple #[Iv (v : Nat), Iv 0]) rfl rfl rfl (by kernel_rfl) ⟨rfl, rfl, trivial⟩
theorem Zfg (s : ByteArray) : Zao Tryd.prog G 52 [.string s] [] (Iv (vR s)) [] := by
 refine Zbv (fn := Tryd.f52) (nt := 13) rfl rfl rfl rfl ?_
 refine Zg (Zi (Zb rfl rfl (Iv 0) rfl (Za (Zc (Zg (Zi (Zd rfl rfl (.string s) rfl ?_)))))))
 refine Zs (Zza (G := G) s) (vals := [.string s]) (res' := .tuple #[Iv ((Zq s).1), Iv ((Zq s).2)]) rfl rfl rfl rfl rfl (by kernel_rfl) ?_
 refine Zd rfl rfl (.tuple #[Iv ((Zq s).1), Iv ((Zq s).2)]) rfl (Zt (vs := #[Iv ((Zq s).1), Iv ((Zq s).2)]) (v := Iv ((Zq s).1)) rfl rfl rfl rfl (Zt (vs := #[Iv ((Zq s).1), Iv ((Zq s).2)]) (v := Iv ((Zq s).2)) rfl rfl rfl rfl (Zb rfl rfl (Iv ((Zq s).1)) rfl (Zb rfl rfl (Iv ((Zq s).2)) rfl (Za (Zc (Zg (Zg (Zi (Zd rfl rfl (Iv ((Zq s).2)) rfl ?_))))))))))
 by_cases h1 : ((Zq s).2) ≠ 0
 refine Zn (vx := Iv ((Zq s).2)) (vy := Iv 0) rfl rfl (.bool true) rfl rfl (Zeg (by omega)) ?_
 refine Za (Zc (Z0 rfl (Zg (Zi (Zb rfl rfl (Iv (-1)) rfl (Za (Zc (Zv (Z5 (Zu ?_))))))))))
 rw [show vR s = -1 from if_pos (by omega)]
 exact Zm (v := Iv (-1)) rfl rfl rfl (by kernel_rfl) rfl
 refine Zn (vx := Iv ((Zq s).2)) (vy := Iv 0) rfl rfl (.bool false) rfl rfl (Zds (by omega)) ?_
 refine Za (Zc (Zx rfl (Zai (Zc (Zg (Zi (Zd rfl rfl (Iv ((Zq s).1)) rfl (Zb rfl rfl (Iv ((Zq s).1)) rfl (Za (Zc (Zv (Zu ?_))))))))))))
 rw [show vR s = ((Zq s).1) from if_neg (by omega)]
 exact Zm (v := Iv ((Zq s).1)) rfl rfl rfl (by kernel_rfl) rfl
theorem Zld (s : ByteArray) : Zao Tryd.prog G 51 [.string s] [] (.tuple #[dgV (Zav s).1, .bool (Zav s).2]) [] := by
  refine Zbv (fn := Tryd.f51) (nt := 20) rfl rfl rfl rfl ?_
  refine Zat 2 (H' := [hole, hole]) rfl ?_
  refine Zg (Zi ?_)
  refine Zae (b := dgB dz) (nid := 0) (H' := [dgB dz, hole]) rfl rfl (by kernel_rfl) (by kernel_rfl) ?_
  refine Zb rfl rfl (.bool false) rfl (Za (Zc (Zg (Zi ?_))))
  refine Zae (b := dgB dz) (nid := 1) (H' := [dgB dz, dgB dz]) rfl rfl (by kernel_rfl) (by kernel_rfl) ?_
  refine Za (Zc (Zg (Zg (Zi (Zd rfl rfl (.string s) rfl ?_)))))
  refine Zb7 (p := .string s) (v := Iv (s.size : Nat)) rfl rfl rfl rfl ?_
  by_cases h1 : (s.size : Nat) ≠ 32
  refine Zn (vx := Iv (s.size : Nat)) (vy := Iv 32) rfl rfl (.bool true) rfl rfl (Zeg (by omega)) ?_
  refine Za (Zc (Z0 rfl (Zg (Zi ?_))))
  refine Zo (p := pt 1 0) (v := dgV dz) rfl rfl rfl (by kernel_rfl) ?_
  refine Zr (p := pt 0 0) (v := dgV dz) (b := 0) (blk := dgB dz) (H' := [dgB dz, dgB dz]) rfl rfl rfl (by kernel_rfl) (by kernel_rfl) ?_
  refine Zb rfl rfl (.bool false) rfl (Za (Zc (Zv (Z5 (Zu ?_)))))
  rw [show Zav s = (dz, false) from if_neg (by omega)]
  exact Zm (v := .tuple #[dgV dz, .bool false]) (by kernel_rfl) rfl rfl (by kernel_rfl) ⟨(Zd1 (Zfn fun _ => rfl) rfl), rfl, trivial⟩
  refine Zn (vx := Iv (s.size : Nat)) (vy := Iv 32) rfl rfl (.bool false) rfl rfl (Zds (by omega)) ?_
  refine Za (Zc (Zx rfl (Zai (Zc (Zg (Zg (Zi (Zb rfl rfl (Iv 0) rfl (Za (Zc (Zap ?_)))))))))))
  refine Zb8 (fun x : Nat × D => match x with | (i, d) => [.string s, dead, pt 0 0, .bool false, pt 1 0, Iv (i : Nat), .string s, Iv (s.size : Nat), .bool false]) (fun x : Nat × D => match x with | (i, d) => [dgB dz, dgB d]) (fun x : Nat × D => match x with | (i, d) => d = Zys s i ∧ i ≤ 32) (fun x : Nat × D => match x with | (i, d) => 32 - i) (0, dz) ⟨(Zx4 s).symm, by omega⟩ ?_ ?_
  · refine Zaq (n := 2) rfl ?_ (by kernel_rfl) (by kernel_rfl)
    repeat (first | exact trivial | refine ⟨.inl rfl, ?_⟩ | refine ⟨.inr ⟨rfl, rfl⟩, ?_⟩ | refine ⟨.inr ⟨congrArg (Value.int .i64) (by first | omega | (dsimp only; omega)), rfl⟩, ?_⟩)
  rintro ⟨i, d⟩ ⟨hd, hi⟩
  dsimp only at *
  refine Zg (Zg (Zi (Zd rfl rfl (Iv (i : Nat)) rfl ?_)))
  by_cases h2 : (i : Nat) < 32
  refine Zn (vx := Iv (i : Nat)) (vy := Iv 32) rfl rfl (.bool true) rfl rfl (Zdt (by omega)) ?_
  refine Za (Zc (Z0 rfl (Zai (Zc (Zg (Zap (Zi (Zd rfl rfl (Iv (i : Nat)) rfl (Zd rfl rfl (.string s) rfl (Zd rfl rfl (Iv (i : Nat)) rfl ?_))))))))))
  refine Zi4 (p := .string s) (i := Iv (i : Nat)) (v := w8 ((bl s).getD i 0)) rfl rfl rfl rfl (Zho rfl (by omega) (by omega)) ?_
  refine Ze7 (b := 1) (o := 0) (j := i) (n := 32) (sz := 1) (i := (i : Nat)) (k := .i64) rfl rfl rfl rfl rfl (by omega) (by omega) (by omega) ?_
  refine Zr (p := pt 1 i) (v := w8 ((bl s).getD i 0)) (b := 1) (blk := dgB (Zha d i ((bl s).getD i 0))) (H' := [dgB dz, dgB (Zha d i ((bl s).getD i 0))]) rfl rfl rfl (Zhv (blk := dgB d) (i := i) (enc := w8) (n := 32) (w := d) (x := ((bl s).getD i 0)) rfl rfl rfl rfl rfl (by omega) rfl rfl) (by kernel_rfl) ?_
  refine Za (Z1 (Zc (Zi (Zd rfl rfl (Iv (i : Nat)) rfl ?_))))
  refine Zn (vx := Iv (i : Nat)) (vy := Iv 1) rfl rfl (Iv ((i : Nat) + 1)) rfl rfl (Za7 (by omega) (by omega) (by omega)) ?_
  refine Zb rfl rfl (Iv ((i : Nat) + 1)) rfl (Za ?_)
  refine Zau ⟨((i + 1), (Zha d i ((bl s).getD i 0))), ⟨by dsimp only; rw [hd]; exact Zyr, by omega⟩, by show 32 - (i + 1) < 32 - i; omega, ?_⟩
  refine Zaq (n := 2) rfl ?_ (by kernel_rfl) (by kernel_rfl)
  repeat (first | exact trivial | refine ⟨.inl rfl, ?_⟩ | refine ⟨.inr ⟨rfl, rfl⟩, ?_⟩ | refine ⟨.inr ⟨congrArg (Value.int .i64) (by first | omega | (dsimp only; omega)), rfl⟩, ?_⟩)
  refine Zn (vx := Iv (i : Nat)) (vy := Iv 32) rfl rfl (.bool false) rfl rfl (Zdh (by omega)) ?_
  refine Za (Zc (Zx rfl (Zce (Zbj (Zbo (Zbp rfl (Zc (Zg (Zi ?_)))))))))
  refine Zo (p := pt 1 0) (v := dgV d) rfl rfl rfl (by kernel_rfl) ?_
  refine Zr (p := pt 0 0) (v := dgV d) (b := 0) (blk := dgB d) (H' := [dgB d, dgB d]) rfl rfl rfl (by kernel_rfl) (by kernel_rfl) ?_
  refine Zb rfl rfl (.bool true) rfl (Za (Zc (Zv (Zu ?_))))
  rw [show Zav s = (d, true) from by unfold Zav; rw [if_pos (by omega), hd, show i = s.size by omega]; rfl]
  exact Zm (v := .tuple #[dgV d, .bool true]) (by kernel_rfl) rfl rfl (by kernel_rfl) ⟨(Zd1 (Zfn fun _ => rfl) rfl), rfl, trivial⟩
end Go.Flat
namespace Go.Flat
open Go.Proofs
variable {G : Glob}
def Zk5 (l : Bs) (last : Int) (acc : List Field) : List Field × Int := Zde (l.length + 1) l last acc
theorem Zoy : ∀ (f g : Nat) (l : Bs) (last : Int) (acc : List Field), l.length < f → l.length < g → Zde f l last acc = Zde g l last acc
 | 0, _, l, _, _, h, _ => absurd h (Nat.not_lt_zero _)
 | _ + 1, 0, l, _, _, _, h => absurd h (Nat.not_lt_zero _)
 | f + 1, g + 1, l, last, acc, h1, h2 => by
  rw [Zde, Zde]
  by_cases h0 : l.length = 0
  ·rw [if_pos h0, if_pos h0]
  ·rw [if_neg h0, if_neg h0]
   by_cases he : (Za2 l l.length).2.2 ≠ 0
   ·rw [if_pos he, if_pos he]
   ·rw [if_neg he, if_neg he]
    by_cases ht : (Za2 l l.length).1.tag ≤ last
    ·rw [if_pos ht, if_pos ht]
    ·rw [if_neg ht, if_neg ht]
     have hp := Zg7 (Decidable.byContradiction fun q => he q)
     exact Zoy f g _ _ _ (by rw [List.length_drop]; omega) (by rw [List.length_drop]; omega)
section
variable {l : Bs} {off m : Nat} {last : Int} {acc : List Field} {R : List Field × Int}
theorem Zkl (hm : off + m = l.length) : (l.drop off).length = m := by rw [List.length_drop]; omega
theorem Zv0 (hR : Zk5 (l.drop off) last acc = R) (hm : off + m = l.length) (h0 : 0 < m) (he : (Za2 (l.drop off) m).2.2 = 0) (ht : last < (Za2 (l.drop off) m).1.tag) : Zk5 (l.drop (off + (Za2 (l.drop off) m).2.1.toNat)) (Za2 (l.drop off) m).1.tag (acc ++ [(Za2 (l.drop off) m).1]) = R := by
 have hl := Zkl hm
 have hp := Zg7 he
 unfold Zk5 at hR ⊢
 rw [Zde, hl, if_neg (by omega), if_neg (fun q => q he), if_neg (by omega), List.drop_drop] at hR
 rw [← hR]
 exact Zoy _ _ _ _ _ (by omega) (by rw [List.length_drop]; omega)
theorem Zy9 (hR : Zk5 (l.drop off) last acc = R) (hm : off + m = l.length) (h0 : 0 < m) (he : (Za2 (l.drop off) m).2.2 ≠ 0) : R = ([], (Za2 (l.drop off) m).2.2) := by
 have hl := Zkl hm
 unfold Zk5 at hR
 rw [Zde, hl, if_neg (by omega), if_pos he] at hR
 exact hR.symm
theorem Zyp (hR : Zk5 (l.drop off) last acc = R) (hm : off + m = l.length) (h0 : 0 < m) (he : (Za2 (l.drop off) m).2.2 = 0) (ht : (Za2 (l.drop off) m).1.tag ≤ last) : R = ([], 11) := by
 have hl := Zkl hm
 unfold Zk5 at hR
 rw [Zde, hl, if_neg (by omega), if_neg (fun q => q he), if_pos ht] at hR
 exact hR.symm
theorem Zzc (hR : Zk5 (l.drop off) last acc = R) (hm : off + m = l.length) (h0 : ¬ 0 < m) : R = (acc, 0) := by
 have hl := Zkl hm
 unfold Zk5 at hR
 rw [Zde, hl, if_pos (by omega)] at hR
 exact hR.symm
end
theorem Zwq : ∀ (fs : List Field) (i : Nat) (ok : Bool) (acc : List ByteArray), (ofL fs i ok acc).2.length = acc.length + fs.length
 | [], _, _, _ => rfl
 | f :: fs, i, ok, acc => by rw [ofL, Zwq fs]; simp; omega
theorem Znh : ∀ (fs : List Field) (i : Nat) (acc : List ByteArray), (ofL fs i false acc).1 = false
 | [], _, _ => rfl
 | f :: fs, i, acc => by rw [ofL, Bool.false_and]; exact Znh fs _ _
def Ze (l : Bs) (n : Nat) : List ByteArray × Bool := if (ofF l).1 = true ∧ (ofF l).2.length = n then ((ofF l).2, true) else ([], false)
theorem Zm9 {l : Bs} {n : Nat} (h : (Zh l).2 ≠ 0 ∨ (Zh l).1.length ≠ n) : Ze l n = ([], false) := by
 refine if_neg fun q => ?_
 unfold ofF at q
 rcases h with h | h
 ·rw [decide_eq_false h, Znh] at q; exact absurd q.1 (by decide)
 ·rw [Zwq] at q; exact h (by simpa using q.2)
theorem Zng {l : Bs} {n i : Nat} {acc : List ByteArray} (hR : ofL ((Zh l).1.drop i) i true acc = ofF l) (hi : i < (Zh l).1.length) (ht : ((Zh l).1.getD i default).tag ≠ (i : Int) + 1) : Ze l n = ([], false) := by
 refine if_neg fun q => ?_
 rw [← hR, Zgl hi, ofL, Bool.true_and, decide_eq_false ht, Znh] at q
 exact absurd q.1 (by decide)
theorem Zvp {l : Bs} {n i : Nat} {acc : List ByteArray} (hR : ofL ((Zh l).1.drop i) i true acc = ofF l) (hi : (Zh l).1.length ≤ i) (hn : acc.length = n) : Ze l n = (acc, true) := by
 rw [List.drop_of_length_le hi, ofL] at hR
 unfold Ze
 rw [← hR, if_pos ⟨rfl, hn⟩]
theorem Z33 (l : Bs) (off m d : Nat) (hm : off + m = l.length) (hd : m ≤ d) (hb : l.length ≤ 1099511627776) : Zao Tryd.prog G 81 [slv 0 0 m d] [rdB ((l.drop off).take m)] (.tuple #[fdV (Za2 (l.drop off) m).1, Iv ((Za2 (l.drop off) m).2.1.toNat : Nat), Iv (Za2 (l.drop off) m).2.2]) [rdB ((l.drop off).take m)] := by
 have e : (l.drop off).take m = l.drop off := List.take_of_length_le (by rw [List.length_drop]; omega)
 rw [e]
 have h := Z16 (G := G) (l.drop off) m d (by rw [List.length_drop]; omega) hd (by omega)
 rw [show (((Za2 (l.drop off) m).2.1.toNat : Nat) : Int) = (Za2 (l.drop off) m).2.1 from by have := Zwx (l.drop off) m; omega]
 exact h
theorem Zs7 (l : Bs) (c : Nat) (hc : l.length ≤ c) (hb : l.length ≤ 1099511627776) (hcc : c ≤ 9223372036854775807) : Zao Tryd.prog G 54 [slv 0 0 l.length c] [rdB l] (.tuple #[slv 1 0 (Zh l).1.length (Zh l).1.length, Iv (Zh l).2]) [rdB l, rwB cFd (Zh l).1] := by
  refine Zbv (fn := Tryd.f54) (nt := 35) rfl rfl rfl rfl ?_
  refine Zat 1 (H' := [rdB l, hole]) rfl ?_
  refine Zg (Zi (Zb rfl rfl (.slice none 0 0) rfl (Zb rfl rfl (Iv 0) rfl (Za (Zc (Zg (Zi (Zb rfl rfl (.slice none 0 0) rfl (Za (Zc (Zg ?_)))))))))))
  refine Zcw (Zcq.nilTmp (i := 4) (b := 1) true 2 rfl (by decide) rfl) ?_
  refine Zi (Zb rfl rfl (Iv 0) rfl (Za (Zc (Zg (Zap ?_)))))
  refine Zb8 (fun x : Nat × Nat × Nat × Int × Nat × (List Field) => match x with | (off, m, d, last, q, acc) => [slv 0 off m d, dead, dead, dead, slv 1 0 q q, Iv last]) (fun x : Nat × Nat × Nat × Int × Nat × (List Field) => match x with | (off, m, d, last, q, acc) => [rdB l, rwB cFd acc]) (fun x : Nat × Nat × Nat × Int × Nat × (List Field) => match x with | (off, m, d, last, q, acc) => Zk5 (l.drop off) last acc = Zh l ∧ acc.length = q ∧ off + m = l.length ∧ m ≤ d ∧ d ≤ c ∧ q ≤ off) (fun x : Nat × Nat × Nat × Int × Nat × (List Field) => match x with | (off, m, d, last, q, acc) => m) (0, l.length, c, 0, 0, []) ⟨rfl, rfl, by omega, by omega, by omega, by omega⟩ ?_ ?_
  · refine Zaq (n := 2) rfl ?_ (by kernel_rfl) (by kernel_rfl)
    repeat (first | exact trivial | refine ⟨.inl rfl, ?_⟩ | refine ⟨.inr ⟨rfl, rfl⟩, ?_⟩ | refine ⟨.inr ⟨congrArg (Value.int .i64) (by first | omega | (dsimp only; omega)), rfl⟩, ?_⟩)
  rintro ⟨off, m, d, last, q, acc⟩ ⟨hR, ha, hm, hd, hdc, hq⟩
  dsimp only at *
  refine Zat 3 (H' := [rdB l, rwB cFd acc, hole, hole, hole]) rfl ?_
  refine Zg (Zg (Zi (Zd rfl rfl (slv 0 off m d) rfl ?_)))
  refine Zb7 (p := slv 0 off m d) (v := Iv (m : Nat)) rfl rfl rfl rfl ?_
  by_cases h1 : 0 < (m : Nat)
  refine Zn (vx := Iv (m : Nat)) (vy := Iv 0) rfl rfl (.bool true) rfl rfl (Zf1 (by omega)) ?_
  refine Za (Zc (Z0 rfl (Zai (Zc (Zap (Zg (Zi (Zd rfl rfl (slv 0 off m d) rfl ?_))))))))
  refine Zad (e := [some (0, off)]) (nid := 0) (Z33 (G := G) l off m d (by omega) (by omega) hb) (vals := [slv 0 off m d]) (v := .tuple #[fdV ((Za2 (l.drop off) m).1), Iv ((((Za2 (l.drop off) m).2.1.toNat) : Nat) : Int), Iv ((Za2 (l.drop off) m).2.2)]) (H' := [rdB l, rwB cFd acc, hole, hole, hole]) rfl rfl rfl rfl rfl rfl rfl ⟨⟨⟨rfl, by omega, rfl, by omega, by omega⟩, trivial⟩, ⟨(Zme rfl (.inl rfl) (by omega)), trivial⟩, rfl, rfl, rfl⟩ (by kernel_rfl) (by kernel_rfl) ?_
  refine Zd rfl rfl (.tuple #[fdV ((Za2 (l.drop off) m).1), Iv ((((Za2 (l.drop off) m).2.1.toNat) : Nat) : Int), Iv ((Za2 (l.drop off) m).2.2)]) rfl (Zt (vs := #[fdV ((Za2 (l.drop off) m).1), Iv ((((Za2 (l.drop off) m).2.1.toNat) : Nat) : Int), Iv ((Za2 (l.drop off) m).2.2)]) (v := fdV ((Za2 (l.drop off) m).1)) rfl rfl rfl rfl (Zt (vs := #[fdV ((Za2 (l.drop off) m).1), Iv ((((Za2 (l.drop off) m).2.1.toNat) : Nat) : Int), Iv ((Za2 (l.drop off) m).2.2)]) (v := Iv ((((Za2 (l.drop off) m).2.1.toNat) : Nat) : Int)) rfl rfl rfl rfl (Zt (vs := #[fdV ((Za2 (l.drop off) m).1), Iv ((((Za2 (l.drop off) m).2.1.toNat) : Nat) : Int), Iv ((Za2 (l.drop off) m).2.2)]) (v := Iv ((Za2 (l.drop off) m).2.2)) rfl rfl rfl rfl ?_)))
  refine Zae (b := bxB 2 (fdC (⟨0, ⟨#[]⟩⟩ : Field))) (nid := 2) (H' := [rdB l, rwB cFd acc, bxB 2 (fdC (⟨0, ⟨#[]⟩⟩ : Field)), hole, hole]) rfl rfl (by kernel_rfl) (by kernel_rfl) ?_
  refine Zr (p := pt 2 0) (v := fdV ((Za2 (l.drop off) m).1)) (b := 2) (blk := bxB 2 (fdC ((Za2 (l.drop off) m).1))) (H' := [rdB l, rwB cFd acc, bxB 2 (fdC ((Za2 (l.drop off) m).1)), hole, hole]) rfl rfl rfl (by kernel_rfl) (by kernel_rfl) ?_
  refine Zb rfl rfl (Iv ((((Za2 (l.drop off) m).2.1.toNat) : Nat) : Int)) rfl (Zb rfl rfl (Iv ((Za2 (l.drop off) m).2.2)) rfl (Za (Zc (Zg (Zg (Zi (Zd rfl rfl (Iv ((Za2 (l.drop off) m).2.2)) rfl ?_)))))))
  by_cases h2 : ((Za2 (l.drop off) m).2.2) ≠ 0
  refine Zn (vx := Iv ((Za2 (l.drop off) m).2.2)) (vy := Iv 0) rfl rfl (.bool true) rfl rfl (Zeg (by omega)) ?_
  refine Za (Zc (Z0 rfl (Zg (Zi (Zd rfl rfl (Iv ((Za2 (l.drop off) m).2.2)) rfl (Zb rfl rfl (.slice none 0 0) rfl (Zb rfl rfl (Iv ((Za2 (l.drop off) m).2.2)) rfl (Za (Zc ?_)))))))))
  refine Zcw (Zcq.nilTmp (i := 2) (b := 3) true 2 rfl (by decide) rfl) ?_
  refine Zv (Z5 (Zbb (Zfm (Zbb (Z5 (Zu ?_))))))
  have hr := Zy9 hR hm (by omega) (by omega)
  rw [hr]
  exact Za5 [0, 3] (v := .tuple #[slv 3 0 0 0, Iv ((Za2 (l.drop off) m).2.2)]) rfl (by kernel_rfl) rfl rfl (by decide) (by simp [Zac, rdB, rwB, cFd]) ⟨⟨rfl, rfl, rfl, by first | omega | exact Nat.le_refl _ | exact Nat.zero_le _ | (dsimp only; omega), by first | omega | exact Nat.le_refl _ | exact Nat.zero_le _ | (dsimp only; omega)⟩, rfl, trivial⟩
  refine Zn (vx := Iv ((Za2 (l.drop off) m).2.2)) (vy := Iv 0) rfl rfl (.bool false) rfl rfl (Zds (by omega)) ?_
  refine Za (Zc (Zx rfl (Zai (Zc (Zg (Zg ?_))))))
  have hgp := Zg7 (l := l.drop off) (n := m) (by omega)
  refine Zi ?_
  refine Zj (b := 2) (o := 0) (n := 0) (o' := 0) rfl rfl rfl rfl rfl ?_
  refine Zo (p := pt 2 0) (v := Iv (((Za2 (l.drop off) m).1).tag)) rfl rfl rfl (by kernel_rfl) ?_
  refine Zd rfl rfl (Iv last) rfl ?_
  by_cases h3 : (((Za2 (l.drop off) m).1).tag) ≤ last
  refine Zn (vx := Iv (((Za2 (l.drop off) m).1).tag)) (vy := Iv last) rfl rfl (.bool true) rfl rfl (Zmf (by omega)) ?_
  refine Za (Zc (Z0 rfl (Zg (Zi (Zb rfl rfl (.slice none 0 0) rfl (Zb rfl rfl (Iv 11) rfl (Za (Zc ?_))))))))
  refine Zcw (Zcq.nilTmp (i := 2) (b := 3) true 2 rfl (by decide) rfl) ?_
  refine Zv (Z5 (Zbb (Zfm (Zbb (Z5 (Zu ?_))))))
  have hr := Zyp hR hm (by omega) (by omega) (by omega)
  rw [hr]
  exact Za5 [0, 3] (v := .tuple #[slv 3 0 0 0, Iv 11]) rfl (by kernel_rfl) rfl rfl (by decide) (by simp [Zac, rdB, rwB, cFd]) ⟨⟨rfl, rfl, rfl, by first | omega | exact Nat.le_refl _ | exact Nat.zero_le _ | (dsimp only; omega), by first | omega | exact Nat.le_refl _ | exact Nat.zero_le _ | (dsimp only; omega)⟩, rfl, trivial⟩
  refine Zn (vx := Iv (((Za2 (l.drop off) m).1).tag)) (vy := Iv last) rfl rfl (.bool false) rfl rfl (Zk8 (by omega)) ?_
  refine Za (Zc (Zx rfl (Zai (Zc (Zg (Zi (Zd rfl rfl (slv 1 0 q q) rfl ?_)))))))
  refine Zo (p := pt 2 0) (v := fdV ((Za2 (l.drop off) m).1)) rfl rfl rfl (by kernel_rfl) ?_
  refine Zd5 (vs := [(0, fdV ((Za2 (l.drop off) m).1))]) (v := slv 3 0 1 1) (blk := rwB cFd [(Za2 (l.drop off) m).1]) (nid := 3) (H' := [rdB l, rwB cFd acc, bxB 2 (fdC ((Za2 (l.drop off) m).1)), rwB cFd [(Za2 (l.drop off) m).1], hole]) rfl rfl rfl (by kernel_rfl) (by kernel_rfl) ?_
  have hl2 : (acc ++ [(Za2 (l.drop off) m).1]).length = q + 1 := by have := ha; have := (rfl : _ = 1); first | (rw [List.length_append]; omega) | (simp; omega) | simp
  refine Zbz (p := slv 1 0 q q) (q := slv 3 0 1 1) (v := slv 1 0 (q + 1) (q + 1)) (b := 1) (blk := rwB cFd (acc ++ [(Za2 (l.drop off) m).1])) (H' := [rdB l, rwB cFd (acc ++ [(Za2 (l.drop off) m).1]), bxB 2 (fdC ((Za2 (l.drop off) m).1)), rwB cFd [(Za2 (l.drop off) m).1], hole]) rfl rfl rfl (.inl ⟨_, rfl⟩) rfl rfl (Zhh cFd (by_ := 24) (k := 1) (n' := q + 1) (ms := [(Za2 (l.drop off) m).1]) (fun _ => rfl) rfl rfl (by kernel_rfl) rfl rfl (by have := ha; omega) (by omega) (by decide) (by omega)) rfl (by kernel_rfl) ?_
  refine Zb rfl rfl (slv 1 0 (q + 1) (q + 1)) rfl (Za (Zc (Zg (Zi ?_))))
  refine Zj (b := 2) (o := 0) (n := 0) (o' := 0) rfl rfl rfl rfl rfl ?_
  refine Zo (p := pt 2 0) (v := Iv (((Za2 (l.drop off) m).1).tag)) rfl rfl rfl (by kernel_rfl) ?_
  refine Zb rfl rfl (Iv (((Za2 (l.drop off) m).1).tag)) rfl (Za (Zc (Zi (Zd rfl rfl (slv 0 off m d) rfl (Zd rfl rfl (Iv ((((Za2 (l.drop off) m).2.1.toNat) : Nat) : Int)) rfl ?_)))))
  refine Zec (p := slv 0 off m d) (vl := some (Iv ((((Za2 (l.drop off) m).2.1.toNat) : Nat) : Int))) (vh := none) (v := slv 0 (off + ((Za2 (l.drop off) m).2.1.toNat)) (m - ((Za2 (l.drop off) m).2.1.toNat)) (d - ((Za2 (l.drop off) m).2.1.toNat))) rfl rfl rfl rfl rfl (Zmb (sz := 1) (l := ((Za2 (l.drop off) m).2.1.toNat)) rfl rfl rfl (by omega) (by omega) (by omega) rfl (by omega) (by omega) (by omega)) ?_
  refine Zb rfl rfl (slv 0 (off + ((Za2 (l.drop off) m).2.1.toNat)) (m - ((Za2 (l.drop off) m).2.1.toNat)) (d - ((Za2 (l.drop off) m).2.1.toNat))) rfl (Za (Z1 ?_))
  refine Zau ⟨((off + ((Za2 (l.drop off) m).2.1.toNat)), (m - ((Za2 (l.drop off) m).2.1.toNat)), (d - ((Za2 (l.drop off) m).2.1.toNat)), (((Za2 (l.drop off) m).1).tag), (q + 1), (acc ++ [(Za2 (l.drop off) m).1])), ⟨Zv0 hR hm (by omega) (by omega) (by omega), by rw [List.length_append, ha]; rfl, by dsimp only; omega, by dsimp only; omega, by dsimp only; omega, by dsimp only; omega⟩, by dsimp only; omega, ?_⟩
  refine Zaq (n := 2) rfl ?_ (by kernel_rfl) (by kernel_rfl)
  repeat (first | exact trivial | refine ⟨.inl rfl, ?_⟩ | refine ⟨.inr ⟨rfl, rfl⟩, ?_⟩ | refine ⟨.inr ⟨congrArg (Value.int .i64) (by first | omega | (dsimp only; omega)), rfl⟩, ?_⟩)
  refine Zn (vx := Iv (m : Nat)) (vy := Iv 0) rfl rfl (.bool false) rfl rfl (Zf8 (by omega)) ?_
  refine Za (Zc (Zx rfl (Zce (Zbj (Zbo (Zbp rfl (Zc (Zg (Zi (Zd rfl rfl (slv 1 0 q q) rfl (Zb rfl rfl (slv 1 0 q q) rfl (Zb rfl rfl (Iv 0) rfl (Za (Zc (Zv (Zu ?_))))))))))))))))
  have hr := Zzc hR hm (by omega)
  rw [hr]
  rw [show (acc, (0 : Int)).1.length = q from ha]
  exact Za5 [0, 1] (v := .tuple #[slv 1 0 q q, Iv 0]) rfl (by kernel_rfl) rfl rfl (by decide) (by simp [Zac, rdB, rwB, cFd]) ⟨⟨rfl, rfl, rfl, by first | omega | exact Nat.le_refl _ | exact Nat.zero_le _ | (dsimp only; omega), by first | omega | exact Nat.le_refl _ | exact Nat.zero_le _ | (dsimp only; omega)⟩, rfl, trivial⟩
end Go.Flat
