/- Walks and plain laws: what each theorem says, within the bounds that it names. -/
import Derived.Test.YthfklplpfbmkgaaDoorH12
import Derived.Test.YthfklplpfbmkgaaDoorFlatH
set_option linter.unusedVariables false
set_option linter.unusedSimpArgs false
set_option maxRecDepth 20000
namespace Go.Flat
open Go.Proofs
variable {G : Glob}

def gAt (l : Bs) (o : Nat) : Field × Int × Int := getF (l.drop o) (l.length - o)
def offK (l : Bs) : Nat → Nat
  | 0 => 0
  | k + 1 => offK l k + (gAt l (offK l k)).2.1.toNat
def fldK (l : Bs) (k : Nat) : Field := (gAt l (offK l k)).1
def errK (l : Bs) (k : Nat) : Int := (gAt l (offK l k)).2.2
def lastK (l : Bs) : Nat → Int
  | 0 => 0
  | k + 1 => (fldK l k).tag
def accK (l : Bs) : Nat → List Field
  | 0 => []
  | k + 1 => accK l k ++ [fldK l k]
theorem accK_succ (l : Bs) (k : Nat) : accK l (k + 1) = accK l k ++ [fldK l k] := rfl
def okK (l : Bs) (k : Nat) : Prop := errK l k = 0 ∧ lastK l k < (fldK l k).tag
def cntF (l : Bs) : Nat → Nat → Nat
  | 0, k => k
  | f + 1, k => if l.length ≤ offK l k then k else if errK l k ≠ 0 then k + 1 else cntF l f (k + 1)
def cntN (l : Bs) : Nat := cntF l (l.length + 1) 0
theorem cntF_ge (l : Bs) : ∀ f k, k ≤ cntF l f k
  | 0, k => Nat.le_refl _
  | f + 1, k => by
    rw [cntF]
    split
    · exact Nat.le_refl _
    · split
      · omega
      · have := cntF_ge l f (k + 1); omega
theorem getF_pos {l : Bs} {n : Nat} (h : (getF l n).2.2 = 0) : 4 ≤ (getF l n).2.1 ∧ (getF l n).2.1 ≤ (n : Int) := by
  revert h
  unfold getF
  repeat' split
  all_goals intro h
  all_goals first | exact absurd h (by decide) | (dsimp only; omega)
theorem offK_lt {l : Bs} {k : Nat} (h : errK l k = 0) : offK l k + 4 ≤ offK l (k + 1) ∧ (offK l k ≤ l.length → offK l (k + 1) ≤ l.length) := by
  have := getF_pos (l := l.drop (offK l k)) (n := l.length - offK l k) h
  show offK l k + 4 ≤ offK l k + (gAt l (offK l k)).2.1.toNat ∧ (offK l k ≤ l.length → offK l k + (gAt l (offK l k)).2.1.toNat ≤ l.length)
  unfold gAt
  omega
theorem cnt_at {l : Bs} : ∀ k, (∀ j, j < k → okK l j) → (∀ j, j < k → offK l j < l.length) → ∃ f, l.length + 1 ≤ f + offK l k ∧ cntF l f k = cntN l ∧ offK l k ≤ l.length
  | 0, _, _ => ⟨l.length + 1, by simp [offK], rfl, Nat.zero_le _⟩
  | k + 1, h, ho => by
    obtain ⟨f, h1, h2, h3⟩ := cnt_at k (fun j hj => h j (by omega)) (fun j hj => ho j (by omega))
    have hk := h k (by omega)
    have hl := ho k (by omega)
    have hp := offK_lt hk.1
    cases f with
    | zero => omega
    | succ f =>
      rw [cntF, if_neg (by omega), if_neg (by rw [hk.1]; simp)] at h2
      exact ⟨f, by omega, h2, hp.2 h3⟩
theorem off_of_lt {l : Bs} : ∀ k, k ≤ cntN l → (∀ j, j < k → okK l j) → ∀ j, j < k → offK l j < l.length
  | 0, _, _, j, hj => by omega
  | k + 1, hk, h, j, hj => by
    have ih := off_of_lt k (by omega) (fun j hj => h j (by omega))
    rcases Nat.lt_or_ge j k with h1 | h1
    · exact ih j h1
    · obtain rfl : j = k := by omega
      obtain ⟨f, g1, g2, g3⟩ := cnt_at j (fun i hi => h i (by omega)) ih
      rcases Nat.lt_or_ge (offK l j) l.length with h2 | h2
      · exact h2
      · have : cntF l f j = j := by
          cases f with
          | zero => rfl
          | succ f => rw [cntF, if_pos h2]
        omega
theorem lt_cnt {l : Bs} {k : Nat} (h : ∀ j, j < k → okK l j) (ho : ∀ j, j < k → offK l j < l.length) (hk : offK l k < l.length) : k < cntN l := by
  obtain ⟨f, g1, g2, g3⟩ := cnt_at k h ho
  cases f with
  | zero => omega
  | succ f =>
    rw [cntF, if_neg (by omega)] at g2
    split at g2
    · omega
    · have := cntF_ge l f (k + 1); omega
theorem cnt_eq {l : Bs} {k : Nat} (h : ∀ j, j < k → okK l j) (ho : ∀ j, j < k → offK l j < l.length) (hk : l.length ≤ offK l k) : cntN l = k := by
  obtain ⟨f, g1, g2, g3⟩ := cnt_at k h ho
  rw [← g2]
  cases f with
  | zero => rfl
  | succ f => rw [cntF, if_pos hk]
theorem cnt_end {l : Bs} (h : ∀ k, k < cntN l → okK l k) : l.length ≤ offK l (cntN l) := by
  rcases Nat.lt_or_ge (offK l (cntN l)) l.length with h1 | h1
  · have := lt_cnt h (off_of_lt _ (Nat.le_refl _) h) h1; omega
  · exact h1
def readL : Nat → Bs → Int → List Field → List Field × Int
  | 0, _, _, acc => (acc, 0)
  | f + 1, l, last, acc => if l.length = 0 then (acc, 0) else if (getF l l.length).2.2 ≠ 0 then ([], (getF l l.length).2.2) else if (getF l l.length).1.tag ≤ last then ([], 11) else readL f (l.drop (getF l l.length).2.1.toNat) (getF l l.length).1.tag (acc ++ [(getF l l.length).1])
def readF (l : Bs) : List Field × Int := readL (l.length + 1) l 0 []
theorem read_at {l : Bs} : ∀ k, (∀ j, j < k → okK l j) → (∀ j, j < k → offK l j < l.length) → ∃ f, l.length + 1 ≤ f + offK l k ∧ offK l k ≤ l.length ∧ readF l = readL f (l.drop (offK l k)) (lastK l k) (accK l k)
  | 0, _, _ => ⟨l.length + 1, by simp [offK], Nat.zero_le _, rfl⟩
  | k + 1, h, ho => by
    obtain ⟨f, h1, h3, h2⟩ := read_at k (fun j hj => h j (by omega)) (fun j hj => ho j (by omega))
    have hk := h k (by omega)
    have hl := ho k (by omega)
    have hp := offK_lt hk.1
    cases f with
    | zero => omega
    | succ f =>
      have e : (l.drop (offK l k)).length = l.length - offK l k := List.length_drop
      rw [readL, e, if_neg (by omega)] at h2
      have hk1 : (getF (l.drop (offK l k)) (l.length - offK l k)).2.2 = 0 := hk.1
      have hk2 : lastK l k < (getF (l.drop (offK l k)) (l.length - offK l k)).1.tag := hk.2
      rw [if_neg (by rw [hk1]; simp), if_neg (by omega), List.drop_drop] at h2
      refine ⟨f, by omega, hp.2 h3, ?_⟩
      rw [h2, accK_succ]
      rfl
theorem read_err {l : Bs} {k : Nat} (h : ∀ j, j < k → okK l j) (hk : k < cntN l) : (errK l k ≠ 0 → readF l = ([], errK l k)) ∧ (errK l k = 0 → (fldK l k).tag ≤ lastK l k → readF l = ([], 11)) := by
  have ho := off_of_lt k (by omega) h
  obtain ⟨f, h1, h3, h2⟩ := read_at k h ho
  have hlt : offK l k < l.length := by
    rcases Nat.lt_or_ge (offK l k) l.length with h4 | h4
    · exact h4
    · have := cnt_eq h ho h4; omega
  cases f with
  | zero => omega
  | succ f =>
    have e : (l.drop (offK l k)).length = l.length - offK l k := List.length_drop
    rw [readL, e, if_neg (by omega)] at h2
    constructor
    · intro he
      have he' : (getF (l.drop (offK l k)) (l.length - offK l k)).2.2 ≠ 0 := he
      rw [if_pos he'] at h2; exact h2
    · intro he ht
      have he' : (getF (l.drop (offK l k)) (l.length - offK l k)).2.2 = 0 := he
      have ht' : (getF (l.drop (offK l k)) (l.length - offK l k)).1.tag ≤ lastK l k := ht
      rw [if_neg (by rw [he']; simp), if_pos ht'] at h2; exact h2
theorem read_end {l : Bs} (h : ∀ k, k < cntN l → okK l k) : readF l = (accK l (cntN l), 0) := by
  obtain ⟨f, h1, h3, h2⟩ := read_at _ h (off_of_lt _ (Nat.le_refl _) h)
  have := cnt_end h
  cases f with
  | zero => rw [h2]; rfl
  | succ f =>
    rw [h2, readL, if_pos (by rw [List.length_drop]; omega)]
theorem accK_len (l : Bs) : ∀ k, (accK l k).length = k
  | 0 => rfl
  | k + 1 => by rw [accK, List.length_append, accK_len l k]; rfl
end Go.Flat
