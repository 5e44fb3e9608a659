/- Walks and plain laws: what each theorem says, within the bounds that it names. -/
import Derived.Test.YtgmnjggeffdjhaaDoorA3
set_option linter.unusedVariables false
set_option linter.unusedSimpArgs false
set_option maxRecDepth 20000
namespace Go.Flat
open Go.Proofs
variable {G : Glob}
def anQ (l : List Item) (r : Int) (i : Nat) : Prop := (l.getD i default).entry.kind = 2 ∧ (l.getD i default).entry.head.head.region = r
def lastI (l : List Item) (r : Int) (i : Nat) (at_ : Int) : Prop := (at_ = -1 ∧ ∀ j, j < i → ¬ anQ l r j) ∨ ∃ k : Nat, at_ = (k : Int) ∧ k < i ∧ anQ l r k ∧ ∀ j, k < j → j < i → ¬ anQ l r j
def anS (l : List Item) (r s : Int) (i : Nat) : Prop := (l.getD i default).entry.kind = 2 ∧ (l.getD i default).entry.head.head.region = r ∧ s < (l.getD i default).entry.head.head.size
def firstI (l : List Item) (r s : Int) (i : Nat) (fi : Int) : Prop := (fi = -1 ∧ ∀ j, j < i → ¬ anS l r s j) ∨ ∃ k : Nat, fi = (k : Int) ∧ k < i ∧ anS l r s k ∧ ∀ j, j < k → ¬ anS l r s j
section
variable {l : List Item} {r s : Int} {i : Nat} {at_ fi : Int}
end
end Go.Flat
