/- The document's whole, walked. No condition. -/
import Derived.Test.YtdanlpkclkjkcaaDesk
namespace Go.Proofs.Ytdanlpkclkjkcaa
open Go Go.Sy
set_option maxRecDepth 4000
set_option linter.unusedSimpArgs false
set_option linter.unusedVariables false
attribute [local irreducible] Reg RegD Later Out CallV Tri Side EqV
end Go.Proofs.Ytdanlpkclkjkcaa
