/- Walks of package cursor, for stores that are old: what comes back is new. No condition. -/
import Derived.Test.YtokkencbpmjdaaaGreatOld
namespace Go.Proofs.YtokkencbpmjdaaaGreat
open Go Go.Sy
set_option maxRecDepth 4000
set_option linter.unusedSimpArgs false
set_option linter.unusedVariables false
attribute [local irreducible] Reg RegD Later Out CallV Tri Side EqV Pause
end Go.Proofs.YtokkencbpmjdaaaGreat
