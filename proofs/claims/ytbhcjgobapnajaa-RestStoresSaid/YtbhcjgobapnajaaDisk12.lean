/- Walks of the document's disks: RecordOf, CheckDisk, EndOf, AppendOf, OpenOf. No condition. -/
import Derived.Test.YtbhcjgobapnajaaDisk11
namespace Go.Proofs.Ytbhcjgobapnajaa
open Go Go.Sy
set_option maxRecDepth 4000
set_option linter.unusedSimpArgs false
set_option linter.unusedVariables false
attribute [local irreducible] Reg RegD Later Out CallV YieldV Tri Side EqV
end Go.Proofs.Ytbhcjgobapnajaa
