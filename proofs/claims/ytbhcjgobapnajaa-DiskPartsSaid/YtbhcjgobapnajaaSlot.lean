/- Packets and slots: what is wrong with one; which follows which; are they the same. No condition. -/
import Derived.Test.YtbhcjgobapnajaaCount
import Derived.Test.YtbhcjgobapnajaaDa
namespace Go.Proofs.Ytbhcjgobapnajaa
open Go Go.Sy
set_option maxRecDepth 4000
set_option linter.unusedSimpArgs false
set_option linter.unusedVariables false
attribute [local irreducible] Reg RegD Later Out CallV Tri Side EqV
def pktE (p : Pkt) : Int := if ¬ ((0 ≤ p.seq ∧ p.seq ≤ 65535) ∧ 0 ≤ p.time ∧ p.time ≤ 1000000) then 3 else if 8 < p.text.size then 2 else if p.key = true ∧ p.first = false then 4 else 0
abbrev tt : ByteArray := ⟨#[116]⟩
abbrev mk (n t : Int) (a b c : Bool) : Slt := ⟨n, ⟨n % 65536, t, a, b, c, tt⟩⟩
end Go.Proofs.Ytbhcjgobapnajaa
