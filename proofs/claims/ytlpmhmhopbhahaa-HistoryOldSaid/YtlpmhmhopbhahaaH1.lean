/- Walks and plain laws: what each theorem says, within the bounds that it names. -/
import Derived.Test.YtlpmhmhopbhahaaXB
set_option linter.unusedVariables false
set_option linter.unusedSimpArgs false
set_option maxRecDepth 20000
set_option maxRecDepth 20000
namespace Go.Flat
open Go.Proofs
variable {G : Glob}
structure Field where
  tag : Int
  data : ByteArray
def fdC (f : Field) : List Value := [.int .i64 f.tag, .string f.data]
def fdV (f : Field) : Value := .agg (fdC f).toArray
def cFd : Cod Field := ⟨fdC, 2, fun _ => rfl, by decide⟩
instance : Inhabited Field := ⟨⟨0, ⟨#[]⟩⟩⟩
/-! ### A number's bytes -/
def numF : Nat → Nat → Nat → D → Bs
  | 0, _, a, b => (rowL 8 b).drop a
  | f + 1, n, a, b => if n = 0 then (rowL 8 b).drop a else numF f (n / 256) (a - 1) (updN b (a - 1) (BitVec.ofInt 8 (n : Int)))
theorem numF_zero (f a : Nat) (b : D) : numF f 0 a b = (rowL 8 b).drop a := by cases f <;> simp [numF]
theorem pow_pos_of {k a : Nat} (hk : k < 256 ^ a) (h : 1 ≤ k) : 1 ≤ a := by
  cases a with
  | zero => simp at hk; omega
  | succ a => omega
theorem numF_step {a k q a' : Nat} {b : D} {x : BitVec 8} {R : Bs} (hR : numF a k a b = R) (hk : k < 256 ^ a) (h1 : 0 < k) (hx : x = BitVec.ofInt 8 (k : Int)) (ha' : a = a' + 1) (hq : q = k / 256 := by rfl) (h8 : a ≤ 8 := by omega) : numF a' q a' (updN b a' x) = R ∧ q < 256 ^ a' ∧ a' ≤ 8 := by
  subst ha'; subst hx; subst hq
  refine ⟨?_, ?_, by omega⟩
  · rw [numF, if_neg (by omega)] at hR; exact hR
  · rw [Nat.pow_succ] at hk; exact Nat.div_lt_of_lt_mul (by omega)
def numS (n : Int) : ByteArray × Int := if 0 ≤ n ∧ n ≤ 4611686018427387903 then (strOf (numF 8 n.toNat 8 dz), 0) else (⟨#[]⟩, 1)
end Go.Flat
