/-
  No cell of these rows narrows 'for every input' (looked for: loops, veiled, ifaces, maps, wideKeys, modest, calm, conditions, laid).
  DERIVED. THE GIVEN ROWS OF THIS SEAT. 11 by the template 'for every input the law returns true; each argument reads behind the call as it read before'; 0 by the template 'total and deterministic' (their statements: YtgndmmbbhfmegaaTotals.lean).
  GIVEN WITH THE SEED: the statements are not yours to turn. If you find one false, say at which input.
  Laid BY PROGRAM, IN A SANDBOX (cutbox-rows.mjs): the forced cells as the released guide's own fill.sh prints them over the translation 90e468f33993c483… (all of the seat's roots in one cut). By AI agents, Wed Nov 11 2026. No macro, syntax, notation, axiom, sorry.
-/
import Derived.Test.YtgndmmbbhfmegaaChecked
import GoSem.Claim
import GoSem.ClaimJoined
import GoSem.ClaimMapViews
import Derived.JoinedTies
import Derived.KernelRfl
namespace Go.Proofs.Ytgndmmbbhfmegaa
/- THE CELL 'sum', in the pinned program and in every row, IS THE sha256 OF THE DUMP (.gsa) THAT YtgndmmbbhfmegaaProg.lean LOADS. Nothing in Lean hashes anything: it is a label: what it is worth is what the hold of that sum in a sandbox is worth. -/
noncomputable def Try.pinned : Pinned := { name := "ytgndmmbbhfmegaa", sum := "90e468f33993c48369538d57b291167b7f7418650ba531d8d08b854b10375583", checked := Try.checked }
namespace Rows
def none {H : Type} : Left H := { results := [], args := [] }

/-- 'switchbacklaw.CountTells': WHATEVER THE INPUT: true; the input reads as it did. -/
def countTellsSpec : ChangeSpec := { name := "countTells", fn := fun _ => fun
  | [d1, d2, d3, d4] => { results := [.lit (.bool true)], args := [d1, d2, d3, d4] }
  | _ => none }
def countTellsRow : OpenClaim := { program := "ytgndmmbbhfmegaa", sum := "90e468f33993c48369538d57b291167b7f7418650ba531d8d08b854b10375583", func := "switchback/switchbacklaw.CountTells", spec := "countTells", unfollowed := true, recurses := true, apart := false }
def CountTellsSaid : Prop := countTellsRow.holds Try.pinned (OpenSpec.ofChange countTellsSpec)

/-- ITS FALSE NEIGHBOUR: 'it returns false'. Refute it at one input. -/
def countTellsWrong : ChangeSpec := { name := "countTells", fn := fun _ => fun
  | [d1, d2, d3, d4] => { results := [.lit (.bool false)], args := [d1, d2, d3, d4] }
  | _ => none }
def CountTellsWrongFalsely : Prop := countTellsRow.holds Try.pinned (OpenSpec.ofChange countTellsWrong)

/-- 'switchbacklaw.CountBack': WHATEVER THE INPUT: true; the input reads as it did. -/
def countBackSpec : ChangeSpec := { name := "countBack", fn := fun _ => fun
  | [d1, d2] => { results := [.lit (.bool true)], args := [d1, d2] }
  | _ => none }
def countBackRow : OpenClaim := { program := "ytgndmmbbhfmegaa", sum := "90e468f33993c48369538d57b291167b7f7418650ba531d8d08b854b10375583", func := "switchback/switchbacklaw.CountBack", spec := "countBack", unfollowed := true, recurses := true, apart := false }
def CountBackSaid : Prop := countBackRow.holds Try.pinned (OpenSpec.ofChange countBackSpec)

/-- ITS FALSE NEIGHBOUR: 'it returns false'. Refute it at one input. -/
def countBackWrong : ChangeSpec := { name := "countBack", fn := fun _ => fun
  | [d1, d2] => { results := [.lit (.bool false)], args := [d1, d2] }
  | _ => none }
def CountBackWrongFalsely : Prop := countBackRow.holds Try.pinned (OpenSpec.ofChange countBackWrong)

/-- 'switchbacklaw.CountNear': WHATEVER THE INPUT: true; the input reads as it did. -/
def countNearSpec : ChangeSpec := { name := "countNear", fn := fun _ => fun
  | [d1, d2] => { results := [.lit (.bool true)], args := [d1, d2] }
  | _ => none }
def countNearRow : OpenClaim := { program := "ytgndmmbbhfmegaa", sum := "90e468f33993c48369538d57b291167b7f7418650ba531d8d08b854b10375583", func := "switchback/switchbacklaw.CountNear", spec := "countNear", unfollowed := true, recurses := true, apart := false }
def CountNearSaid : Prop := countNearRow.holds Try.pinned (OpenSpec.ofChange countNearSpec)

/-- ITS FALSE NEIGHBOUR: 'it returns false'. Refute it at one input. -/
def countNearWrong : ChangeSpec := { name := "countNear", fn := fun _ => fun
  | [d1, d2] => { results := [.lit (.bool false)], args := [d1, d2] }
  | _ => none }
def CountNearWrongFalsely : Prop := countNearRow.holds Try.pinned (OpenSpec.ofChange countNearWrong)

/-- 'switchbacklaw.CountRound': WHATEVER THE INPUT: true; the input reads as it did. -/
def countRoundSpec : ChangeSpec := { name := "countRound", fn := fun _ => fun
  | [d1, d2] => { results := [.lit (.bool true)], args := [d1, d2] }
  | _ => none }
def countRoundRow : OpenClaim := { program := "ytgndmmbbhfmegaa", sum := "90e468f33993c48369538d57b291167b7f7418650ba531d8d08b854b10375583", func := "switchback/switchbacklaw.CountRound", spec := "countRound", unfollowed := true, recurses := true, apart := false }
def CountRoundSaid : Prop := countRoundRow.holds Try.pinned (OpenSpec.ofChange countRoundSpec)

/-- ITS FALSE NEIGHBOUR: 'it returns false'. Refute it at one input. -/
def countRoundWrong : ChangeSpec := { name := "countRound", fn := fun _ => fun
  | [d1, d2] => { results := [.lit (.bool false)], args := [d1, d2] }
  | _ => none }
def CountRoundWrongFalsely : Prop := countRoundRow.holds Try.pinned (OpenSpec.ofChange countRoundWrong)

/-- 'switchbacklaw.PaceTells': WHATEVER THE INPUT: true; the input reads as it did. -/
def paceTellsSpec : ChangeSpec := { name := "paceTells", fn := fun _ => fun
  | [d1, d2, d3, d4, d5] => { results := [.lit (.bool true)], args := [d1, d2, d3, d4, d5] }
  | _ => none }
def paceTellsRow : OpenClaim := { program := "ytgndmmbbhfmegaa", sum := "90e468f33993c48369538d57b291167b7f7418650ba531d8d08b854b10375583", func := "switchback/switchbacklaw.PaceTells", spec := "paceTells", apart := false }
def PaceTellsSaid : Prop := paceTellsRow.holds Try.pinned (OpenSpec.ofChange paceTellsSpec)

/-- ITS FALSE NEIGHBOUR: 'it returns false'. Refute it at one input. -/
def paceTellsWrong : ChangeSpec := { name := "paceTells", fn := fun _ => fun
  | [d1, d2, d3, d4, d5] => { results := [.lit (.bool false)], args := [d1, d2, d3, d4, d5] }
  | _ => none }
def PaceTellsWrongFalsely : Prop := paceTellsRow.holds Try.pinned (OpenSpec.ofChange paceTellsWrong)

/-- 'switchbacklaw.PaceReach': WHATEVER THE INPUT: true; the input reads as it did. -/
def paceReachSpec : ChangeSpec := { name := "paceReach", fn := fun _ => fun
  | [d1, d2, d3] => { results := [.lit (.bool true)], args := [d1, d2, d3] }
  | _ => none }
def paceReachRow : OpenClaim := { program := "ytgndmmbbhfmegaa", sum := "90e468f33993c48369538d57b291167b7f7418650ba531d8d08b854b10375583", func := "switchback/switchbacklaw.PaceReach", spec := "paceReach", apart := false }
def PaceReachSaid : Prop := paceReachRow.holds Try.pinned (OpenSpec.ofChange paceReachSpec)

/-- ITS FALSE NEIGHBOUR: 'it returns false'. Refute it at one input. -/
def paceReachWrong : ChangeSpec := { name := "paceReach", fn := fun _ => fun
  | [d1, d2, d3] => { results := [.lit (.bool false)], args := [d1, d2, d3] }
  | _ => none }
def PaceReachWrongFalsely : Prop := paceReachRow.holds Try.pinned (OpenSpec.ofChange paceReachWrong)

/-- 'switchbacklaw.PaceTurns': WHATEVER THE INPUT: true; the input reads as it did. -/
def paceTurnsSpec : ChangeSpec := { name := "paceTurns", fn := fun _ => fun
  | [d1, d2, d3] => { results := [.lit (.bool true)], args := [d1, d2, d3] }
  | _ => none }
def paceTurnsRow : OpenClaim := { program := "ytgndmmbbhfmegaa", sum := "90e468f33993c48369538d57b291167b7f7418650ba531d8d08b854b10375583", func := "switchback/switchbacklaw.PaceTurns", spec := "paceTurns", apart := false }
def PaceTurnsSaid : Prop := paceTurnsRow.holds Try.pinned (OpenSpec.ofChange paceTurnsSpec)

/-- ITS FALSE NEIGHBOUR: 'it returns false'. Refute it at one input. -/
def paceTurnsWrong : ChangeSpec := { name := "paceTurns", fn := fun _ => fun
  | [d1, d2, d3] => { results := [.lit (.bool false)], args := [d1, d2, d3] }
  | _ => none }
def PaceTurnsWrongFalsely : Prop := paceTurnsRow.holds Try.pinned (OpenSpec.ofChange paceTurnsWrong)

/-- 'switchbacklaw.OutTells': WHATEVER THE INPUT: true; the input reads as it did. -/
def outTellsSpec : ChangeSpec := { name := "outTells", fn := fun _ => fun
  | [d1, d2, d3] => { results := [.lit (.bool true)], args := [d1, d2, d3] }
  | _ => none }
def outTellsRow : OpenClaim := { program := "ytgndmmbbhfmegaa", sum := "90e468f33993c48369538d57b291167b7f7418650ba531d8d08b854b10375583", func := "switchback/switchbacklaw.OutTells", spec := "outTells", unfollowed := true, recurses := true, apart := false }
def OutTellsSaid : Prop := outTellsRow.holds Try.pinned (OpenSpec.ofChange outTellsSpec)

/-- ITS FALSE NEIGHBOUR: 'it returns false'. Refute it at one input. -/
def outTellsWrong : ChangeSpec := { name := "outTells", fn := fun _ => fun
  | [d1, d2, d3] => { results := [.lit (.bool false)], args := [d1, d2, d3] }
  | _ => none }
def OutTellsWrongFalsely : Prop := outTellsRow.holds Try.pinned (OpenSpec.ofChange outTellsWrong)

/-- 'switchbacklaw.OutSteps': WHATEVER THE INPUT: true; the input reads as it did. -/
def outStepsSpec : ChangeSpec := { name := "outSteps", fn := fun _ => fun
  | [d1, d2, d3, d4] => { results := [.lit (.bool true)], args := [d1, d2, d3, d4] }
  | _ => none }
def outStepsRow : OpenClaim := { program := "ytgndmmbbhfmegaa", sum := "90e468f33993c48369538d57b291167b7f7418650ba531d8d08b854b10375583", func := "switchback/switchbacklaw.OutSteps", spec := "outSteps", unfollowed := true, recurses := true, apart := false }
def OutStepsSaid : Prop := outStepsRow.holds Try.pinned (OpenSpec.ofChange outStepsSpec)

/-- ITS FALSE NEIGHBOUR: 'it returns false'. Refute it at one input. -/
def outStepsWrong : ChangeSpec := { name := "outSteps", fn := fun _ => fun
  | [d1, d2, d3, d4] => { results := [.lit (.bool false)], args := [d1, d2, d3, d4] }
  | _ => none }
def OutStepsWrongFalsely : Prop := outStepsRow.holds Try.pinned (OpenSpec.ofChange outStepsWrong)

/-- 'switchbacklaw.WireTells': WHATEVER THE INPUT: true; the input reads as it did. -/
def wireTellsSpec : ChangeSpec := { name := "wireTells", fn := fun _ => fun
  | [d1, d2] => { results := [.lit (.bool true)], args := [d1, d2] }
  | _ => none }
def wireTellsRow : OpenClaim := { program := "ytgndmmbbhfmegaa", sum := "90e468f33993c48369538d57b291167b7f7418650ba531d8d08b854b10375583", func := "switchback/switchbacklaw.WireTells", spec := "wireTells", unfollowed := true, recurses := true, apart := false }
def WireTellsSaid : Prop := wireTellsRow.holds Try.pinned (OpenSpec.ofChange wireTellsSpec)

/-- ITS FALSE NEIGHBOUR: 'it returns false'. Refute it at one input. -/
def wireTellsWrong : ChangeSpec := { name := "wireTells", fn := fun _ => fun
  | [d1, d2] => { results := [.lit (.bool false)], args := [d1, d2] }
  | _ => none }
def WireTellsWrongFalsely : Prop := wireTellsRow.holds Try.pinned (OpenSpec.ofChange wireTellsWrong)

/-- 'switchbacklaw.WireBack': WHATEVER THE INPUT: true; the input reads as it did. -/
def wireBackSpec : ChangeSpec := { name := "wireBack", fn := fun _ => fun
  | [d1, d2] => { results := [.lit (.bool true)], args := [d1, d2] }
  | _ => none }
def wireBackRow : OpenClaim := { program := "ytgndmmbbhfmegaa", sum := "90e468f33993c48369538d57b291167b7f7418650ba531d8d08b854b10375583", func := "switchback/switchbacklaw.WireBack", spec := "wireBack", unfollowed := true, recurses := true, apart := false }
def WireBackSaid : Prop := wireBackRow.holds Try.pinned (OpenSpec.ofChange wireBackSpec)

/-- ITS FALSE NEIGHBOUR: 'it returns false'. Refute it at one input. -/
def wireBackWrong : ChangeSpec := { name := "wireBack", fn := fun _ => fun
  | [d1, d2] => { results := [.lit (.bool false)], args := [d1, d2] }
  | _ => none }
def WireBackWrongFalsely : Prop := wireBackRow.holds Try.pinned (OpenSpec.ofChange wireBackWrong)

/- THE SECOND FORM. 'bulk': how many values and letters a reading holds, each counted each time it is reached (what is shared counts as often as it is met; a slice's spare places count too). A statement '..UptoSaid' is the law's where the arguments, and the package variables that the reading takes, are together of bulk at most 1048576: NARROWER than '..Said'. Prove '..Said' where nothing that the law and all that it calls make is longer than what came in: it says more and counts as full. Else prove '..UptoSaid'. A law counts once. -/
mutual
def uptoBulk {H : Type} : DataW H → Nat
  | .lit (.string bytes) => bytes.length + 1
  | .lit _ => 1
  | .nil => 1
  | .ptr d => uptoBulk d + 1
  | .slice elems spare => uptoBulkAll elems + uptoBulkAll spare + 1
  | .agg parts => uptoBulkAll parts + 1
  | .iface _ d => uptoBulk d + 1
  | .map entries => uptoBulkEntries entries + 1
  | .held _ => 1
def uptoBulkAll {H : Type} : List (DataW H) → Nat
  | [] => 0
  | d :: r => uptoBulk d + uptoBulkAll r
def uptoBulkEntries {H : Type} : List (Lit × DataW H) → Nat
  | [] => 0
  | x :: r => uptoBulkEntry x + uptoBulkEntries r
def uptoBulkEntry {H : Type} : Lit × DataW H → Nat
  | (.string bytes, d) => bytes.length + uptoBulk d + 1
  | (_, d) => uptoBulk d + 1
 end
def uptoSmall : (H : Type) → List (DataW H) → Bool := fun _ ds => decide (uptoBulkAll ds ≤ 1048576)
def OpenSpec.upto (s : _root_.Go.ChangeSpec) : _root_.Go.OpenSpec := { _root_.Go.OpenSpec.ofChange s with cond := some uptoSmall }

/-- 'switchbacklaw.CountTells', WHERE WHAT IT READS IS OF BULK AT MOST 1048576: true; the input reads as it did. -/
def countTellsUptoRow : OpenClaim := { program := "ytgndmmbbhfmegaa", sum := "90e468f33993c48369538d57b291167b7f7418650ba531d8d08b854b10375583", func := "switchback/switchbacklaw.CountTells", spec := "countTells", unfollowed := true, recurses := true, apart := false, narrowed := true }
def CountTellsUptoSaid : Prop := countTellsUptoRow.holds Try.pinned (OpenSpec.upto countTellsSpec)

/-- 'switchbacklaw.CountBack', WHERE WHAT IT READS IS OF BULK AT MOST 1048576: true; the input reads as it did. -/
def countBackUptoRow : OpenClaim := { program := "ytgndmmbbhfmegaa", sum := "90e468f33993c48369538d57b291167b7f7418650ba531d8d08b854b10375583", func := "switchback/switchbacklaw.CountBack", spec := "countBack", unfollowed := true, recurses := true, apart := false, narrowed := true }
def CountBackUptoSaid : Prop := countBackUptoRow.holds Try.pinned (OpenSpec.upto countBackSpec)

/-- 'switchbacklaw.CountNear', WHERE WHAT IT READS IS OF BULK AT MOST 1048576: true; the input reads as it did. -/
def countNearUptoRow : OpenClaim := { program := "ytgndmmbbhfmegaa", sum := "90e468f33993c48369538d57b291167b7f7418650ba531d8d08b854b10375583", func := "switchback/switchbacklaw.CountNear", spec := "countNear", unfollowed := true, recurses := true, apart := false, narrowed := true }
def CountNearUptoSaid : Prop := countNearUptoRow.holds Try.pinned (OpenSpec.upto countNearSpec)

/-- 'switchbacklaw.CountRound', WHERE WHAT IT READS IS OF BULK AT MOST 1048576: true; the input reads as it did. -/
def countRoundUptoRow : OpenClaim := { program := "ytgndmmbbhfmegaa", sum := "90e468f33993c48369538d57b291167b7f7418650ba531d8d08b854b10375583", func := "switchback/switchbacklaw.CountRound", spec := "countRound", unfollowed := true, recurses := true, apart := false, narrowed := true }
def CountRoundUptoSaid : Prop := countRoundUptoRow.holds Try.pinned (OpenSpec.upto countRoundSpec)

/-- 'switchbacklaw.PaceTells', WHERE WHAT IT READS IS OF BULK AT MOST 1048576: true; the input reads as it did. -/
def paceTellsUptoRow : OpenClaim := { program := "ytgndmmbbhfmegaa", sum := "90e468f33993c48369538d57b291167b7f7418650ba531d8d08b854b10375583", func := "switchback/switchbacklaw.PaceTells", spec := "paceTells", apart := false, narrowed := true }
def PaceTellsUptoSaid : Prop := paceTellsUptoRow.holds Try.pinned (OpenSpec.upto paceTellsSpec)

/-- 'switchbacklaw.PaceReach', WHERE WHAT IT READS IS OF BULK AT MOST 1048576: true; the input reads as it did. -/
def paceReachUptoRow : OpenClaim := { program := "ytgndmmbbhfmegaa", sum := "90e468f33993c48369538d57b291167b7f7418650ba531d8d08b854b10375583", func := "switchback/switchbacklaw.PaceReach", spec := "paceReach", apart := false, narrowed := true }
def PaceReachUptoSaid : Prop := paceReachUptoRow.holds Try.pinned (OpenSpec.upto paceReachSpec)

/-- 'switchbacklaw.PaceTurns', WHERE WHAT IT READS IS OF BULK AT MOST 1048576: true; the input reads as it did. -/
def paceTurnsUptoRow : OpenClaim := { program := "ytgndmmbbhfmegaa", sum := "90e468f33993c48369538d57b291167b7f7418650ba531d8d08b854b10375583", func := "switchback/switchbacklaw.PaceTurns", spec := "paceTurns", apart := false, narrowed := true }
def PaceTurnsUptoSaid : Prop := paceTurnsUptoRow.holds Try.pinned (OpenSpec.upto paceTurnsSpec)

/-- 'switchbacklaw.OutTells', WHERE WHAT IT READS IS OF BULK AT MOST 1048576: true; the input reads as it did. -/
def outTellsUptoRow : OpenClaim := { program := "ytgndmmbbhfmegaa", sum := "90e468f33993c48369538d57b291167b7f7418650ba531d8d08b854b10375583", func := "switchback/switchbacklaw.OutTells", spec := "outTells", unfollowed := true, recurses := true, apart := false, narrowed := true }
def OutTellsUptoSaid : Prop := outTellsUptoRow.holds Try.pinned (OpenSpec.upto outTellsSpec)

/-- 'switchbacklaw.OutSteps', WHERE WHAT IT READS IS OF BULK AT MOST 1048576: true; the input reads as it did. -/
def outStepsUptoRow : OpenClaim := { program := "ytgndmmbbhfmegaa", sum := "90e468f33993c48369538d57b291167b7f7418650ba531d8d08b854b10375583", func := "switchback/switchbacklaw.OutSteps", spec := "outSteps", unfollowed := true, recurses := true, apart := false, narrowed := true }
def OutStepsUptoSaid : Prop := outStepsUptoRow.holds Try.pinned (OpenSpec.upto outStepsSpec)

/-- 'switchbacklaw.WireTells', WHERE WHAT IT READS IS OF BULK AT MOST 1048576: true; the input reads as it did. -/
def wireTellsUptoRow : OpenClaim := { program := "ytgndmmbbhfmegaa", sum := "90e468f33993c48369538d57b291167b7f7418650ba531d8d08b854b10375583", func := "switchback/switchbacklaw.WireTells", spec := "wireTells", unfollowed := true, recurses := true, apart := false, narrowed := true }
def WireTellsUptoSaid : Prop := wireTellsUptoRow.holds Try.pinned (OpenSpec.upto wireTellsSpec)

/-- 'switchbacklaw.WireBack', WHERE WHAT IT READS IS OF BULK AT MOST 1048576: true; the input reads as it did. -/
def wireBackUptoRow : OpenClaim := { program := "ytgndmmbbhfmegaa", sum := "90e468f33993c48369538d57b291167b7f7418650ba531d8d08b854b10375583", func := "switchback/switchbacklaw.WireBack", spec := "wireBack", unfollowed := true, recurses := true, apart := false, narrowed := true }
def WireBackUptoSaid : Prop := wireBackUptoRow.holds Try.pinned (OpenSpec.upto wireBackSpec)

end Rows
end Go.Proofs.Ytgndmmbbhfmegaa
