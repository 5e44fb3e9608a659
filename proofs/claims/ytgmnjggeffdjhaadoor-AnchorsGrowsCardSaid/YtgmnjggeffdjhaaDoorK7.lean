/- Walks and plain laws: what each theorem says, within the bounds that it names. -/
import Derived.Test.YtgmnjggeffdjhaaDoorK6
set_option linter.unusedVariables false
set_option linter.unusedSimpArgs false
set_option maxRecDepth 20000
namespace Go.Flat
open Go.Proofs
variable {G : Glob}
theorem WpS.weak {P : Program} {nt n0 : Nat} {c : Code} {Φ : Ent → Exit → Act → World → Prop} {s s' : St} (hw : Weak G nt n0 s s') (h : WpS P G nt n0 c Φ s') : WpS P G nt n0 c Φ s :=
  fun E m a w hE h0 hr => let ⟨m', h1⟩ := hw E m a w h0 hr; h E m' a w hE h0 h1
def eB (z : Int) : Blk := { cells := [.int .i64 z], sz := 1, wr := true, fix := true, mv := false, pur := true }
def inclE (kk : Nat → BitVec 32) (root leaf : D) (size index : Int) (ds : List D) : Int :=
  if size < 1 ∨ 100000 < size ∨ index < 0 ∨ size ≤ index then 40 else
    match wayF size.toNat index.toNat ds with
    | none => 40
    | some l => if sameB 32 ((knA kk leaf l).getD 0 d0) root then 0 else 41
end Go.Flat
