/- Walks and plain laws: what each theorem says, within the bounds that it names. -/
import Derived.Test.YtgmnjggeffdjhaaDoorE3
import Derived.Test.YtgmnjggeffdjhaaDoorFlatH
set_option linter.unusedVariables false
set_option linter.unusedSimpArgs false
set_option maxRecDepth 20000
namespace Go.Flat
open Go.Proofs
variable {G : Glob}
def selU (p : Nat → Bool) (n : Nat) : List Nat := (List.range n).filter p
def cntU (p : Nat → Bool) (i : Nat) : Nat := (selU p i).length
def usP (l : List Item) (cl : Int) (i : Nat) : Bool := decide ((l.getD i default).entry.kind = 1 ∧ (l.getD i default).entry.client = cl)
def findF (c s : Int) : Nat → List Item → Int × Bool
  | _, [] => (0, false)
  | i, x :: l => if x.entry.kind = 1 ∧ x.entry.client = c ∧ x.entry.seq = s then ((i : Int), true) else findF c s (i + 1) l
def findL (l : List Item) (c s : Int) : Int × Bool := findF c s 0 l
def oldP (c s : Int) (x : Item) : Bool := decide (x.entry.kind = 1 ∧ x.entry.client = c ∧ s ≤ x.entry.seq)
def oldL (l : List Item) (c s : Int) : Bool := l.any (oldP c s)
def mayF (l : List Item) (n : Nat) (x : Item) : Int :=
  if ¬ rightL l ∨ ¬ rightI x then 100 else if 0 < n ∧ x.epoch < (l.getD (n - 1) default).epoch then 102 else if 2000 ≤ n then 2 else if x.entry.kind ≠ 1 then 0 else if oldL l x.entry.client x.entry.seq = true then 101 else 0
section
variable {l : List Item} {n : Nat} {x : Item}
end
end Go.Flat
