/- Walks of the document's disks: DiskOf. No condition. -/
import Derived.Test.YtbhcjgobapnajaaDisk10
namespace Go.Proofs.Ytbhcjgobapnajaa
open Go Go.Sy
set_option maxRecDepth 4000
set_option linter.unusedSimpArgs false
set_option linter.unusedVariables false
attribute [local irreducible] Reg RegD Later Out CallV YieldV Tri Side EqV
structure DI (d : Dk) (x : Nat × List Rc) : Prop where
  o : x.1 ≤ d.data.size
  e : endR 0 x.2 = x.1
  n : 2 * x.2.length ≤ x.1
  b : ∀ y ∈ x.2, 0 ≤ y.n ∧ y.n ≤ 100000
  rest : ∃ f, d.data.size ≤ f + x.1 ∧ ∃ R, diskL d.data f x.1 (lastN x.2) = R ∧ diskL d.data d.data.size 0 none = R.map fun m => x.2 ++ m
end Go.Proofs.Ytbhcjgobapnajaa
