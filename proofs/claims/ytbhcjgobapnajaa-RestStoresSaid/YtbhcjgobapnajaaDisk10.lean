/- Walks of the document's disks: groups read. No condition. -/
import Derived.Test.YtbhcjgobapnajaaDisk9
import Derived.Test.YtbhcjgobapnajaaWiB
namespace Go.Proofs.Ytbhcjgobapnajaa
open Go Go.Sy
set_option maxRecDepth 4000
set_option linter.unusedSimpArgs false
set_option linter.unusedVariables false
attribute [local irreducible] Reg RegD Later Out CallV YieldV Tri Side EqV
structure GInv (s : ByteArray) (fl : List Fr) (res : Option Nat) (m : Nat) (x : Nat × Nat × List Fr) : Prop where
  i : x.1 ≤ m
  o : x.2.1 ≤ s.size
  n : x.2.2.length = x.1
  rest : ∃ r, rdFrames s (m - x.1) x.2.1 (decide (x.2.2.length = 0)) = (r, res) ∧ fl = x.2.2 ++ r
structure PG (s : ByteArray) (m : Nat) (T : Option (List ByteArray × Nat)) (y : Nat × Nat × List ByteArray) : Prop where
  i : y.1 ≤ m
  o : y.2.1 ≤ s.size
  n : y.2.2.length = y.1
  rest : ∃ R, rdParts s (m - y.1) y.2.1 = R ∧ T = R.map fun x => (y.2.2 ++ x.1, x.2)
end Go.Proofs.Ytbhcjgobapnajaa
