/- Walks and plain laws: what each theorem says, within the bounds that it names. -/
import Derived.Test.YtlpmhmhopbhahaaH4
set_option linter.unusedVariables false
set_option linter.unusedSimpArgs false
set_option maxRecDepth 20000
set_option maxRecDepth 20000
namespace Go.Flat
open Go.Proofs
variable {G : Glob}
def padK (key : D) : D := fun i => if i < 32 then key i else 0
def xorTo (c : D) (x : BitVec 8) (j : Nat) : D := fun i => if i < j then c i ^^^ x else c i
theorem xorTo_zero (c : D) (x : BitVec 8) : xorTo c x 0 = c := by funext i; simp [xorTo]
theorem xorTo_step {c d : D} {x : BitVec 8} {j : Nat} (h : d = xorTo c x j) : updN d j (d j ^^^ x) = xorTo c x (j + 1) := by
  subst h
  funext i
  unfold updN xorTo
  by_cases hi : i = j
  · subst hi; simp
  · simp only [if_neg hi]
    by_cases h1 : i < j
    · rw [if_pos h1, if_pos (by omega)]
    · rw [if_neg h1, if_neg (by omega)]
/-- A key's block, turned. -/
def blockT (key : D) (x : BitVec 8) : ByteArray := strOf (rowL 64 (xorTo (padK key) x 64))
theorem blockT_size (key : D) (x : BitVec 8) : (blockT key x).size = 64 := by unfold blockT; rw [strOf_size, rowL_len]
def macT (kk : Nat → BitVec 32) (key : D) (s : ByteArray) : D := shaOf kk (msgOf [blockT key 92#8, strOf (dgL (shaOf kk (msgOf [blockT key 54#8, s])))])
def allF (a b : D) : Nat → BitVec 8
  | 0 => 0
  | j + 1 => allF a b j ||| (a j ^^^ b j)
theorem allF_step {a b : D} {all : BitVec 8} {j : Nat} (h : all = allF a b j) : (all ||| (a j ^^^ b j)) = allF a b (j + 1) := by subst h; rfl
theorem or_zero8 (x y : BitVec 8) : (x ||| y == 0#8) = ((x == 0#8) && (y == 0#8)) := by
  rw [Bool.eq_iff_iff, Bool.and_eq_true, beq_iff_eq, beq_iff_eq, beq_iff_eq]
  constructor
  · intro h
    constructor
    · apply BitVec.eq_of_getLsbD_eq; intro i hi; have := congrArg (fun z => z.getLsbD i) h; simp at this ⊢; exact this.1
    · apply BitVec.eq_of_getLsbD_eq; intro i hi; have := congrArg (fun z => z.getLsbD i) h; simp at this ⊢; exact this.2
  · rintro ⟨rfl, rfl⟩; rfl
theorem xor_zero8 (x y : BitVec 8) : (x ^^^ y == 0#8) = (x == y) := by
  rw [Bool.eq_iff_iff, beq_iff_eq, beq_iff_eq]
  constructor
  · intro h; exact BitVec.xor_eq_zero_iff.1 h
  · rintro rfl; exact BitVec.xor_self
theorem allF_all (a b : D) : ∀ j, (allF a b j == 0#8) = (List.range j).all fun i => a i == b i
  | 0 => rfl
  | j + 1 => by
    rw [allF, or_zero8, xor_zero8, allF_all a b j, List.range_succ, List.all_append]; simp
theorem allF_same (a b : D) : (allF a b 32 == 0#8) = sameB 32 a b := allF_all a b 32
def keyT (kk : Nat → BitVec 32) (master : D) (region node : Int) : D × Int := if (1 ≤ region ∧ region ≤ 5) ∧ (1 ≤ node ∧ node ≤ 3) then (macT kk master (strOf [75#8, BitVec.ofInt 8 region, BitVec.ofInt 8 node]), 0) else (dz, 50)
def holdsE (kk : Nat → BitVec 32) (master : D) (region node : Int) (s : ByteArray) (t : D) : Int :=
  if (((keyT kk master region node).2)) ≠ 0 then (((keyT kk master region node).2)) else
  if sameB 32 (macT kk ((keyT kk master region node).1) s) t = true then 0 else
  72
end Go.Flat
