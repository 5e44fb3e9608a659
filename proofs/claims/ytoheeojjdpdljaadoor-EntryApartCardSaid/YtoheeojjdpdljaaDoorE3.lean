/- Walks and plain laws: what each theorem says, within the bounds that it names. -/
import Derived.Test.YtoheeojjdpdljaaDoorE2
set_option linter.unusedVariables false
set_option linter.unusedSimpArgs false
set_option maxRecDepth 20000
namespace Go.Flat
open Go.Proofs
variable {G : Glob}
def goodF : Int → List Item → Bool
  | _, [] => true
  | ep, x :: l => decide (rightI x) && decide (ep ≤ x.epoch) && goodF x.epoch l
def rightL (l : List Item) : Prop := l.length ≤ 2000 ∧ goodF 0 l = true
instance (l : List Item) : Decidable (rightL l) := inferInstanceAs (Decidable (_ ∧ _))
def chkL (l : List Item) : Int := if rightL l then 0 else 100
def prevE (l : List Item) (i : Nat) : Int := if i = 0 then 0 else (l.getD (i - 1) default).epoch
def bigT (x : Item) : Bool := decide (1000 < x.entry.text.size)
def bigB (l : List Item) : Bool := decide (60 < l.length) || l.any bigT
def sameL (l m : List Item) : Bool := decide (l.length = m.length) && (List.range l.length).all fun i => eqItem (l.getD i default) (m.getD i default)
end Go.Flat
