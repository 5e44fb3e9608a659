/- Walks and plain laws: what each theorem says, within the bounds that it names. -/
import Derived.Test.YtgmnjggeffdjhaaDoorA4
set_option linter.unusedVariables false
set_option linter.unusedSimpArgs false
set_option maxRecDepth 20000
namespace Go.Flat
open Go.Proofs
variable {G : Glob}
theorem goodF_last : ∀ (l : List Item) (ep : Int) (x : Item), goodF ep l = true → rightI x → (l = [] → ep ≤ x.epoch) → (l ≠ [] → (l.getD (l.length - 1) default).epoch ≤ x.epoch) → goodF ep (l ++ [x]) = true
  | [], ep, x, _, hx, h0, _ => by
    show (decide (rightI x) && decide (ep ≤ x.epoch) && true) = true
    rw [decide_eq_true hx, decide_eq_true (h0 rfl)]; rfl
  | y :: l, ep, x, h, hx, _, h1 => by
    rw [goodF, Bool.and_eq_true] at h
    show (decide (rightI y) && decide (ep ≤ y.epoch) && goodF y.epoch (l ++ [x])) = true
    rw [h.1, Bool.true_and]
    have h2 := h1 (by simp)
    refine goodF_last l y.epoch x h.2 hx (fun e => ?_) (fun e => ?_)
    · subst e; exact h2
    · have hp : 0 < l.length := by cases l with | nil => exact absurd rfl e | cons => simp
      rw [show (y :: l).length - 1 = (l.length - 1) + 1 from by simp; omega] at h2
      exact h2
theorem lat_snoc (l : List Item) (ep : Int) (s : Signed) : latL (l ++ [anI ep s]) s.head.region = (s, true) := by
  unfold latL
  rw [latG_app]
  show (if anP (anI ep s) s.head.region = true then ((anI ep s).entry.head, true) else _) = _
  rw [if_pos (show anP (anI ep s) s.head.region = true from decide_eq_true ⟨rfl, rfl⟩)]; rfl
end Go.Flat
