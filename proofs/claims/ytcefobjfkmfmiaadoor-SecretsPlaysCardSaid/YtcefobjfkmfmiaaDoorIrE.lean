/-
The functions' codes, as the small language has them.
-/
import Derived.Test.YtcefobjfkmfmiaaDoorProg
import Derived.Test.YtcefobjfkmfmiaaDoorAmLoop
import Derived.KernelRfl
set_option linter.unusedSimpArgs false
set_option linter.unusedVariables false
set_option linter.unusedSectionVars false
set_option maxRecDepth 100000
namespace Am
open Go.Proofs
end Am
