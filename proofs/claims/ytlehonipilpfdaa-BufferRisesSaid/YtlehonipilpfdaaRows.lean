/-
  No cell of these rows narrows 'for every input' (looked for: loops, veiled, ifaces, maps, wideKeys, modest, calm, conditions, laid).
  DERIVED. THE GIVEN ROWS OF THIS SEAT. 9 by the template 'for every input the law returns true; each argument reads behind the call as it read before'; 0 by the template 'total and deterministic' (their statements: YtlehonipilpfdaaTotals.lean).
  GIVEN WITH THE SEED: the statements are not yours to turn. If you find one false, say at which input.
  Laid BY PROGRAM, IN A SANDBOX (cutbox-rows.mjs): the forced cells as the released guide's own fill.sh prints them over the translation d1b140eaa1df1314… (all of the seat's roots in one cut). By AI agents, Wed Nov 11 2026. No macro, syntax, notation, axiom, sorry.
-/
import Derived.Test.YtlehonipilpfdaaChecked
import GoSem.Claim
import GoSem.ClaimJoined
import GoSem.ClaimMapViews
import Derived.JoinedTies
import Derived.KernelRfl
namespace Go.Proofs.Ytlehonipilpfdaa
/- THE CELL 'sum', in the pinned program and in every row, IS THE sha256 OF THE DUMP (.gsa) THAT YtlehonipilpfdaaProg.lean LOADS. Nothing in Lean hashes anything: it is a label: what it is worth is what the hold of that sum in a sandbox is worth. -/
noncomputable def Try.pinned : Pinned := { name := "ytlehonipilpfdaa", sum := "d1b140eaa1df1314259f477f6e75cb1962b4be661a3663d76b015103bc8190f5", checked := Try.checked }
namespace Rows
def none {H : Type} : Left H := { results := [], args := [] }

/-- 'switchbacklaw.OutSteps': WHATEVER THE INPUT: true; the input reads as it did. -/
def outStepsSpec : ChangeSpec := { name := "outSteps", fn := fun _ => fun
  | [d1, d2, d3, d4] => { results := [.lit (.bool true)], args := [d1, d2, d3, d4] }
  | _ => none }
def outStepsRow : OpenClaim := { program := "ytlehonipilpfdaa", sum := "d1b140eaa1df1314259f477f6e75cb1962b4be661a3663d76b015103bc8190f5", func := "switchback/switchbacklaw.OutSteps", spec := "outSteps", unfollowed := true, recurses := true, apart := false }
def OutStepsSaid : Prop := outStepsRow.holds Try.pinned (OpenSpec.ofChange outStepsSpec)

/-- ITS FALSE NEIGHBOUR: 'it returns false'. Refute it at one input. -/
def outStepsWrong : ChangeSpec := { name := "outSteps", fn := fun _ => fun
  | [d1, d2, d3, d4] => { results := [.lit (.bool false)], args := [d1, d2, d3, d4] }
  | _ => none }
def OutStepsWrongFalsely : Prop := outStepsRow.holds Try.pinned (OpenSpec.ofChange outStepsWrong)

/-- 'switchbacklaw.WireTells': WHATEVER THE INPUT: true; the input reads as it did. -/
def wireTellsSpec : ChangeSpec := { name := "wireTells", fn := fun _ => fun
  | [d1, d2] => { results := [.lit (.bool true)], args := [d1, d2] }
  | _ => none }
def wireTellsRow : OpenClaim := { program := "ytlehonipilpfdaa", sum := "d1b140eaa1df1314259f477f6e75cb1962b4be661a3663d76b015103bc8190f5", func := "switchback/switchbacklaw.WireTells", spec := "wireTells", unfollowed := true, recurses := true, apart := false }
def WireTellsSaid : Prop := wireTellsRow.holds Try.pinned (OpenSpec.ofChange wireTellsSpec)

/-- ITS FALSE NEIGHBOUR: 'it returns false'. Refute it at one input. -/
def wireTellsWrong : ChangeSpec := { name := "wireTells", fn := fun _ => fun
  | [d1, d2] => { results := [.lit (.bool false)], args := [d1, d2] }
  | _ => none }
def WireTellsWrongFalsely : Prop := wireTellsRow.holds Try.pinned (OpenSpec.ofChange wireTellsWrong)

/-- 'switchbacklaw.WireBack': WHATEVER THE INPUT: true; the input reads as it did. -/
def wireBackSpec : ChangeSpec := { name := "wireBack", fn := fun _ => fun
  | [d1, d2] => { results := [.lit (.bool true)], args := [d1, d2] }
  | _ => none }
def wireBackRow : OpenClaim := { program := "ytlehonipilpfdaa", sum := "d1b140eaa1df1314259f477f6e75cb1962b4be661a3663d76b015103bc8190f5", func := "switchback/switchbacklaw.WireBack", spec := "wireBack", unfollowed := true, recurses := true, apart := false }
def WireBackSaid : Prop := wireBackRow.holds Try.pinned (OpenSpec.ofChange wireBackSpec)

/-- ITS FALSE NEIGHBOUR: 'it returns false'. Refute it at one input. -/
def wireBackWrong : ChangeSpec := { name := "wireBack", fn := fun _ => fun
  | [d1, d2] => { results := [.lit (.bool false)], args := [d1, d2] }
  | _ => none }
def WireBackWrongFalsely : Prop := wireBackRow.holds Try.pinned (OpenSpec.ofChange wireBackWrong)

/-- 'switchbacklaw.WireApart': WHATEVER THE INPUT: true; the input reads as it did. -/
def wireApartSpec : ChangeSpec := { name := "wireApart", fn := fun _ => fun
  | [d1, d2] => { results := [.lit (.bool true)], args := [d1, d2] }
  | _ => none }
def wireApartRow : OpenClaim := { program := "ytlehonipilpfdaa", sum := "d1b140eaa1df1314259f477f6e75cb1962b4be661a3663d76b015103bc8190f5", func := "switchback/switchbacklaw.WireApart", spec := "wireApart", unfollowed := true, recurses := true, apart := false }
def WireApartSaid : Prop := wireApartRow.holds Try.pinned (OpenSpec.ofChange wireApartSpec)

/-- ITS FALSE NEIGHBOUR: 'it returns false'. Refute it at one input. -/
def wireApartWrong : ChangeSpec := { name := "wireApart", fn := fun _ => fun
  | [d1, d2] => { results := [.lit (.bool false)], args := [d1, d2] }
  | _ => none }
def WireApartWrongFalsely : Prop := wireApartRow.holds Try.pinned (OpenSpec.ofChange wireApartWrong)

/-- 'switchbacklaw.BufferTells': WHATEVER THE INPUT: true; the input reads as it did. -/
def bufferTellsSpec : ChangeSpec := { name := "bufferTells", fn := fun _ => fun
  | [d1, d2] => { results := [.lit (.bool true)], args := [d1, d2] }
  | _ => none }
def bufferTellsRow : OpenClaim := { program := "ytlehonipilpfdaa", sum := "d1b140eaa1df1314259f477f6e75cb1962b4be661a3663d76b015103bc8190f5", func := "switchback/switchbacklaw.BufferTells", spec := "bufferTells", inPlace := ["slices.overlaps[switchback/api.Slot]"], unfollowed := true, recurses := true, apart := false }
def BufferTellsSaid : Prop := bufferTellsRow.holds Try.pinned (OpenSpec.ofChange bufferTellsSpec)

/-- ITS FALSE NEIGHBOUR: 'it returns false'. Refute it at one input. -/
def bufferTellsWrong : ChangeSpec := { name := "bufferTells", fn := fun _ => fun
  | [d1, d2] => { results := [.lit (.bool false)], args := [d1, d2] }
  | _ => none }
def BufferTellsWrongFalsely : Prop := bufferTellsRow.holds Try.pinned (OpenSpec.ofChange bufferTellsWrong)

/-- 'switchbacklaw.BufferRises': WHATEVER THE INPUT: true; the input reads as it did. -/
def bufferRisesSpec : ChangeSpec := { name := "bufferRises", fn := fun _ => fun
  | [d1, d2] => { results := [.lit (.bool true)], args := [d1, d2] }
  | _ => none }
def bufferRisesRow : OpenClaim := { program := "ytlehonipilpfdaa", sum := "d1b140eaa1df1314259f477f6e75cb1962b4be661a3663d76b015103bc8190f5", func := "switchback/switchbacklaw.BufferRises", spec := "bufferRises", inPlace := ["slices.overlaps[switchback/api.Slot]"], unfollowed := true, recurses := true, apart := false }
def BufferRisesSaid : Prop := bufferRisesRow.holds Try.pinned (OpenSpec.ofChange bufferRisesSpec)

/-- ITS FALSE NEIGHBOUR: 'it returns false'. Refute it at one input. -/
def bufferRisesWrong : ChangeSpec := { name := "bufferRises", fn := fun _ => fun
  | [d1, d2] => { results := [.lit (.bool false)], args := [d1, d2] }
  | _ => none }
def BufferRisesWrongFalsely : Prop := bufferRisesRow.holds Try.pinned (OpenSpec.ofChange bufferRisesWrong)

/-- 'switchbacklaw.BufferAgain': WHATEVER THE INPUT: true; the input reads as it did. -/
def bufferAgainSpec : ChangeSpec := { name := "bufferAgain", fn := fun _ => fun
  | [d1, d2, d3] => { results := [.lit (.bool true)], args := [d1, d2, d3] }
  | _ => none }
def bufferAgainRow : OpenClaim := { program := "ytlehonipilpfdaa", sum := "d1b140eaa1df1314259f477f6e75cb1962b4be661a3663d76b015103bc8190f5", func := "switchback/switchbacklaw.BufferAgain", spec := "bufferAgain", inPlace := ["slices.overlaps[switchback/api.Slot]"], unfollowed := true, recurses := true, apart := false }
def BufferAgainSaid : Prop := bufferAgainRow.holds Try.pinned (OpenSpec.ofChange bufferAgainSpec)

/-- ITS FALSE NEIGHBOUR: 'it returns false'. Refute it at one input. -/
def bufferAgainWrong : ChangeSpec := { name := "bufferAgain", fn := fun _ => fun
  | [d1, d2, d3] => { results := [.lit (.bool false)], args := [d1, d2, d3] }
  | _ => none }
def BufferAgainWrongFalsely : Prop := bufferAgainRow.holds Try.pinned (OpenSpec.ofChange bufferAgainWrong)

/-- 'switchbacklaw.CursorOrder': WHATEVER THE INPUT: true; the input reads as it did. -/
def cursorOrderSpec : ChangeSpec := { name := "cursorOrder", fn := fun _ => fun
  | [d1, d2] => { results := [.lit (.bool true)], args := [d1, d2] }
  | _ => none }
def cursorOrderRow : OpenClaim := { program := "ytlehonipilpfdaa", sum := "d1b140eaa1df1314259f477f6e75cb1962b4be661a3663d76b015103bc8190f5", func := "switchback/switchbacklaw.CursorOrder", spec := "cursorOrder", unfollowed := true, recurses := true, apart := false }
def CursorOrderSaid : Prop := cursorOrderRow.holds Try.pinned (OpenSpec.ofChange cursorOrderSpec)

/-- ITS FALSE NEIGHBOUR: 'it returns false'. Refute it at one input. -/
def cursorOrderWrong : ChangeSpec := { name := "cursorOrder", fn := fun _ => fun
  | [d1, d2] => { results := [.lit (.bool false)], args := [d1, d2] }
  | _ => none }
def CursorOrderWrongFalsely : Prop := cursorOrderRow.holds Try.pinned (OpenSpec.ofChange cursorOrderWrong)

/-- 'switchbacklaw.CursorKey': WHATEVER THE INPUT: true; the input reads as it did. -/
def cursorKeySpec : ChangeSpec := { name := "cursorKey", fn := fun _ => fun
  | [d1, d2, d3, d4] => { results := [.lit (.bool true)], args := [d1, d2, d3, d4] }
  | _ => none }
def cursorKeyRow : OpenClaim := { program := "ytlehonipilpfdaa", sum := "d1b140eaa1df1314259f477f6e75cb1962b4be661a3663d76b015103bc8190f5", func := "switchback/switchbacklaw.CursorKey", spec := "cursorKey", unfollowed := true, recurses := true, apart := false }
def CursorKeySaid : Prop := cursorKeyRow.holds Try.pinned (OpenSpec.ofChange cursorKeySpec)

/-- ITS FALSE NEIGHBOUR: 'it returns false'. Refute it at one input. -/
def cursorKeyWrong : ChangeSpec := { name := "cursorKey", fn := fun _ => fun
  | [d1, d2, d3, d4] => { results := [.lit (.bool false)], args := [d1, d2, d3, d4] }
  | _ => none }
def CursorKeyWrongFalsely : Prop := cursorKeyRow.holds Try.pinned (OpenSpec.ofChange cursorKeyWrong)

/- THE SECOND FORM. 'bulk': how many values and letters a reading holds, each counted each time it is reached (what is shared counts as often as it is met; a slice's spare places count too). A statement '..UptoSaid' is the law's where the arguments, and the package variables that the reading takes, are together of bulk at most 1048576: NARROWER than '..Said'. Prove '..Said' where nothing that the law and all that it calls make is longer than what came in: it says more and counts as full. Else prove '..UptoSaid'. A law counts once. -/
mutual
def uptoBulk {H : Type} : DataW H → Nat
  | .lit (.string bytes) => bytes.length + 1
  | .lit _ => 1
  | .nil => 1
  | .ptr d => uptoBulk d + 1
  | .slice elems spare => uptoBulkAll elems + uptoBulkAll spare + 1
  | .agg parts => uptoBulkAll parts + 1
  | .iface _ d => uptoBulk d + 1
  | .map entries => uptoBulkEntries entries + 1
  | .held _ => 1
def uptoBulkAll {H : Type} : List (DataW H) → Nat
  | [] => 0
  | d :: r => uptoBulk d + uptoBulkAll r
def uptoBulkEntries {H : Type} : List (Lit × DataW H) → Nat
  | [] => 0
  | x :: r => uptoBulkEntry x + uptoBulkEntries r
def uptoBulkEntry {H : Type} : Lit × DataW H → Nat
  | (.string bytes, d) => bytes.length + uptoBulk d + 1
  | (_, d) => uptoBulk d + 1
 end
def uptoSmall : (H : Type) → List (DataW H) → Bool := fun _ ds => decide (uptoBulkAll ds ≤ 1048576)
def OpenSpec.upto (s : _root_.Go.ChangeSpec) : _root_.Go.OpenSpec := { _root_.Go.OpenSpec.ofChange s with cond := some uptoSmall }

/-- 'switchbacklaw.OutSteps', WHERE WHAT IT READS IS OF BULK AT MOST 1048576: true; the input reads as it did. -/
def outStepsUptoRow : OpenClaim := { program := "ytlehonipilpfdaa", sum := "d1b140eaa1df1314259f477f6e75cb1962b4be661a3663d76b015103bc8190f5", func := "switchback/switchbacklaw.OutSteps", spec := "outSteps", unfollowed := true, recurses := true, apart := false, narrowed := true }
def OutStepsUptoSaid : Prop := outStepsUptoRow.holds Try.pinned (OpenSpec.upto outStepsSpec)

/-- 'switchbacklaw.WireTells', WHERE WHAT IT READS IS OF BULK AT MOST 1048576: true; the input reads as it did. -/
def wireTellsUptoRow : OpenClaim := { program := "ytlehonipilpfdaa", sum := "d1b140eaa1df1314259f477f6e75cb1962b4be661a3663d76b015103bc8190f5", func := "switchback/switchbacklaw.WireTells", spec := "wireTells", unfollowed := true, recurses := true, apart := false, narrowed := true }
def WireTellsUptoSaid : Prop := wireTellsUptoRow.holds Try.pinned (OpenSpec.upto wireTellsSpec)

/-- 'switchbacklaw.WireBack', WHERE WHAT IT READS IS OF BULK AT MOST 1048576: true; the input reads as it did. -/
def wireBackUptoRow : OpenClaim := { program := "ytlehonipilpfdaa", sum := "d1b140eaa1df1314259f477f6e75cb1962b4be661a3663d76b015103bc8190f5", func := "switchback/switchbacklaw.WireBack", spec := "wireBack", unfollowed := true, recurses := true, apart := false, narrowed := true }
def WireBackUptoSaid : Prop := wireBackUptoRow.holds Try.pinned (OpenSpec.upto wireBackSpec)

/-- 'switchbacklaw.WireApart', WHERE WHAT IT READS IS OF BULK AT MOST 1048576: true; the input reads as it did. -/
def wireApartUptoRow : OpenClaim := { program := "ytlehonipilpfdaa", sum := "d1b140eaa1df1314259f477f6e75cb1962b4be661a3663d76b015103bc8190f5", func := "switchback/switchbacklaw.WireApart", spec := "wireApart", unfollowed := true, recurses := true, apart := false, narrowed := true }
def WireApartUptoSaid : Prop := wireApartUptoRow.holds Try.pinned (OpenSpec.upto wireApartSpec)

/-- 'switchbacklaw.BufferTells', WHERE WHAT IT READS IS OF BULK AT MOST 1048576: true; the input reads as it did. -/
def bufferTellsUptoRow : OpenClaim := { program := "ytlehonipilpfdaa", sum := "d1b140eaa1df1314259f477f6e75cb1962b4be661a3663d76b015103bc8190f5", func := "switchback/switchbacklaw.BufferTells", spec := "bufferTells", inPlace := ["slices.overlaps[switchback/api.Slot]"], unfollowed := true, recurses := true, apart := false, narrowed := true }
def BufferTellsUptoSaid : Prop := bufferTellsUptoRow.holds Try.pinned (OpenSpec.upto bufferTellsSpec)

/-- 'switchbacklaw.BufferRises', WHERE WHAT IT READS IS OF BULK AT MOST 1048576: true; the input reads as it did. -/
def bufferRisesUptoRow : OpenClaim := { program := "ytlehonipilpfdaa", sum := "d1b140eaa1df1314259f477f6e75cb1962b4be661a3663d76b015103bc8190f5", func := "switchback/switchbacklaw.BufferRises", spec := "bufferRises", inPlace := ["slices.overlaps[switchback/api.Slot]"], unfollowed := true, recurses := true, apart := false, narrowed := true }
def BufferRisesUptoSaid : Prop := bufferRisesUptoRow.holds Try.pinned (OpenSpec.upto bufferRisesSpec)

/-- 'switchbacklaw.BufferAgain', WHERE WHAT IT READS IS OF BULK AT MOST 1048576: true; the input reads as it did. -/
def bufferAgainUptoRow : OpenClaim := { program := "ytlehonipilpfdaa", sum := "d1b140eaa1df1314259f477f6e75cb1962b4be661a3663d76b015103bc8190f5", func := "switchback/switchbacklaw.BufferAgain", spec := "bufferAgain", inPlace := ["slices.overlaps[switchback/api.Slot]"], unfollowed := true, recurses := true, apart := false, narrowed := true }
def BufferAgainUptoSaid : Prop := bufferAgainUptoRow.holds Try.pinned (OpenSpec.upto bufferAgainSpec)

/-- 'switchbacklaw.CursorOrder', WHERE WHAT IT READS IS OF BULK AT MOST 1048576: true; the input reads as it did. -/
def cursorOrderUptoRow : OpenClaim := { program := "ytlehonipilpfdaa", sum := "d1b140eaa1df1314259f477f6e75cb1962b4be661a3663d76b015103bc8190f5", func := "switchback/switchbacklaw.CursorOrder", spec := "cursorOrder", unfollowed := true, recurses := true, apart := false, narrowed := true }
def CursorOrderUptoSaid : Prop := cursorOrderUptoRow.holds Try.pinned (OpenSpec.upto cursorOrderSpec)

/-- 'switchbacklaw.CursorKey', WHERE WHAT IT READS IS OF BULK AT MOST 1048576: true; the input reads as it did. -/
def cursorKeyUptoRow : OpenClaim := { program := "ytlehonipilpfdaa", sum := "d1b140eaa1df1314259f477f6e75cb1962b4be661a3663d76b015103bc8190f5", func := "switchback/switchbacklaw.CursorKey", spec := "cursorKey", unfollowed := true, recurses := true, apart := false, narrowed := true }
def CursorKeyUptoSaid : Prop := cursorKeyUptoRow.holds Try.pinned (OpenSpec.upto cursorKeySpec)

end Rows
end Go.Proofs.Ytlehonipilpfdaa
