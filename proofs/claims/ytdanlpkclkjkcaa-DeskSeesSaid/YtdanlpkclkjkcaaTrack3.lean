/- Tracks, walked: feed, drain; the document's. No condition. -/
import Derived.Test.YtdanlpkclkjkcaaTrack2
namespace Go.Proofs.Ytdanlpkclkjkcaa
open Go Go.Sy
set_option maxRecDepth 4000
set_option linter.unusedSimpArgs false
set_option linter.unusedVariables false
attribute [local irreducible] Reg RegD Later Out CallV Tri Side EqV
/-! ### The document's -/
end Go.Proofs.Ytdanlpkclkjkcaa
