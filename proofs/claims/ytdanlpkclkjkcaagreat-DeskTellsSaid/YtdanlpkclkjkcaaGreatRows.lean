/-
  No cell of these rows narrows 'for every input' (looked for: loops, veiled, ifaces, maps, wideKeys, modest, calm, conditions, laid).
  DERIVED. THE GIVEN ROWS OF THIS SEAT. 3 by the template 'for every input the law returns true; each argument reads behind the call as it read before'; 0 by the template 'total and deterministic' (their statements: YtdanlpkclkjkcaaGreatTotals.lean).
  GIVEN WITH THE SEED: the statements are not yours to turn. If you find one false, say at which input.
  Laid BY PROGRAM, IN A SANDBOX (cutbox-rows.mjs): the forced cells as the released guide's own fill.sh prints them over the translation d64641282d42d487… (all of the seat's roots in one cut). By AI agents, Wed Nov 11 2026. No macro, syntax, notation, axiom, sorry.
-/
import Derived.Test.YtdanlpkclkjkcaaGreatChecked
import GoSem.Claim
import GoSem.ClaimJoined
import GoSem.ClaimMapViews
import Derived.JoinedTies
import Derived.KernelRfl
namespace Go.Proofs.YtdanlpkclkjkcaaGreat
/- THE CELL 'sum', in the pinned program and in every row, IS THE sha256 OF THE DUMP (.gsa) THAT YtdanlpkclkjkcaaGreatProg.lean LOADS. Nothing in Lean hashes anything: it is a label: what it is worth is what the hold of that sum in a sandbox is worth. -/
noncomputable def Tryz.pinned : Pinned := { name := "ytdanlpkclkjkcaagreat", sum := "d64641282d42d487ad57140a8aade04bc3a39edc1287f38c4a2d8d1f56e3c79f", checked := Tryz.checked }
namespace Rows
def none {H : Type} : Left H := { results := [], args := [] }

/-- 'switchbacklaw.RestTracks': WHATEVER THE INPUT: true; the input reads as it did. -/
def restTracksSpec : ChangeSpec := { name := "restTracks", fn := fun _ => fun
  | [d1, d2, d3] => { results := [.lit (.bool true)], args := [d1, d2, d3] }
  | _ => none }
def restTracksRow : OpenClaim := { program := "ytdanlpkclkjkcaagreat", sum := "d64641282d42d487ad57140a8aade04bc3a39edc1287f38c4a2d8d1f56e3c79f", func := "switchback/switchbacklaw.RestTracks", spec := "restTracks", inPlace := ["slices.overlaps[switchback/api.Slot]"], unfollowed := true, recurses := true, apart := false }
def RestTracksSaid : Prop := restTracksRow.holds Tryz.pinned (OpenSpec.ofChange restTracksSpec)

/-- ITS FALSE NEIGHBOUR: 'it returns false'. Refute it at one input. -/
def restTracksWrong : ChangeSpec := { name := "restTracks", fn := fun _ => fun
  | [d1, d2, d3] => { results := [.lit (.bool false)], args := [d1, d2, d3] }
  | _ => none }
def RestTracksWrongFalsely : Prop := restTracksRow.holds Tryz.pinned (OpenSpec.ofChange restTracksWrong)

/-- 'switchbacklaw.DeskTells': WHATEVER THE INPUT: true; the input reads as it did. -/
def deskTellsSpec : ChangeSpec := { name := "deskTells", fn := fun _ => fun
  | [d1, d2, d3, d4] => { results := [.lit (.bool true)], args := [d1, d2, d3, d4] }
  | _ => none }
def deskTellsRow : OpenClaim := { program := "ytdanlpkclkjkcaagreat", sum := "d64641282d42d487ad57140a8aade04bc3a39edc1287f38c4a2d8d1f56e3c79f", func := "switchback/switchbacklaw.DeskTells", spec := "deskTells", inPlace := ["slices.overlaps[switchback/api.Slot]"], unfollowed := true, recurses := true, apart := false }
def DeskTellsSaid : Prop := deskTellsRow.holds Tryz.pinned (OpenSpec.ofChange deskTellsSpec)

/-- ITS FALSE NEIGHBOUR: 'it returns false'. Refute it at one input. -/
def deskTellsWrong : ChangeSpec := { name := "deskTells", fn := fun _ => fun
  | [d1, d2, d3, d4] => { results := [.lit (.bool false)], args := [d1, d2, d3, d4] }
  | _ => none }
def DeskTellsWrongFalsely : Prop := deskTellsRow.holds Tryz.pinned (OpenSpec.ofChange deskTellsWrong)

/-- 'switchbacklaw.DeskRuns': WHATEVER THE INPUT: true; the input reads as it did. -/
def deskRunsSpec : ChangeSpec := { name := "deskRuns", fn := fun _ => fun
  | [d] => { results := [.lit (.bool true)], args := [d] }
  | _ => none }
def deskRunsRow : OpenClaim := { program := "ytdanlpkclkjkcaagreat", sum := "d64641282d42d487ad57140a8aade04bc3a39edc1287f38c4a2d8d1f56e3c79f", func := "switchback/switchbacklaw.DeskRuns", spec := "deskRuns", inPlace := ["slices.overlaps[switchback/api.Slot]"], unfollowed := true, recurses := true, apart := false }
def DeskRunsSaid : Prop := deskRunsRow.holds Tryz.pinned (OpenSpec.ofChange deskRunsSpec)

/-- ITS FALSE NEIGHBOUR: 'it returns false'. Refute it at one input. -/
def deskRunsWrong : ChangeSpec := { name := "deskRuns", fn := fun _ => fun
  | [d] => { results := [.lit (.bool false)], args := [d] }
  | _ => none }
def DeskRunsWrongFalsely : Prop := deskRunsRow.holds Tryz.pinned (OpenSpec.ofChange deskRunsWrong)

/- THE SECOND FORM. 'bulk': how many values and letters a reading holds, each counted each time it is reached (what is shared counts as often as it is met; a slice's spare places count too). A statement '..UptoSaid' is the law's where the arguments, and the package variables that the reading takes, are together of bulk at most 1048576: NARROWER than '..Said'. Prove '..Said' where nothing that the law and all that it calls make is longer than what came in: it says more and counts as full. Else prove '..UptoSaid'. A law counts once. -/
mutual
def uptoBulk {H : Type} : DataW H → Nat
  | .lit (.string bytes) => bytes.length + 1
  | .lit _ => 1
  | .nil => 1
  | .ptr d => uptoBulk d + 1
  | .slice elems spare => uptoBulkAll elems + uptoBulkAll spare + 1
  | .agg parts => uptoBulkAll parts + 1
  | .iface _ d => uptoBulk d + 1
  | .map entries => uptoBulkEntries entries + 1
  | .held _ => 1
def uptoBulkAll {H : Type} : List (DataW H) → Nat
  | [] => 0
  | d :: r => uptoBulk d + uptoBulkAll r
def uptoBulkEntries {H : Type} : List (Lit × DataW H) → Nat
  | [] => 0
  | x :: r => uptoBulkEntry x + uptoBulkEntries r
def uptoBulkEntry {H : Type} : Lit × DataW H → Nat
  | (.string bytes, d) => bytes.length + uptoBulk d + 1
  | (_, d) => uptoBulk d + 1
 end
def uptoSmall : (H : Type) → List (DataW H) → Bool := fun _ ds => decide (uptoBulkAll ds ≤ 1048576)
def OpenSpec.upto (s : _root_.Go.ChangeSpec) : _root_.Go.OpenSpec := { _root_.Go.OpenSpec.ofChange s with cond := some uptoSmall }

/-- 'switchbacklaw.RestTracks', WHERE WHAT IT READS IS OF BULK AT MOST 1048576: true; the input reads as it did. -/
def restTracksUptoRow : OpenClaim := { program := "ytdanlpkclkjkcaagreat", sum := "d64641282d42d487ad57140a8aade04bc3a39edc1287f38c4a2d8d1f56e3c79f", func := "switchback/switchbacklaw.RestTracks", spec := "restTracks", inPlace := ["slices.overlaps[switchback/api.Slot]"], unfollowed := true, recurses := true, apart := false, narrowed := true }
def RestTracksUptoSaid : Prop := restTracksUptoRow.holds Tryz.pinned (OpenSpec.upto restTracksSpec)

/-- 'switchbacklaw.DeskTells', WHERE WHAT IT READS IS OF BULK AT MOST 1048576: true; the input reads as it did. -/
def deskTellsUptoRow : OpenClaim := { program := "ytdanlpkclkjkcaagreat", sum := "d64641282d42d487ad57140a8aade04bc3a39edc1287f38c4a2d8d1f56e3c79f", func := "switchback/switchbacklaw.DeskTells", spec := "deskTells", inPlace := ["slices.overlaps[switchback/api.Slot]"], unfollowed := true, recurses := true, apart := false, narrowed := true }
def DeskTellsUptoSaid : Prop := deskTellsUptoRow.holds Tryz.pinned (OpenSpec.upto deskTellsSpec)

/-- 'switchbacklaw.DeskRuns', WHERE WHAT IT READS IS OF BULK AT MOST 1048576: true; the input reads as it did. -/
def deskRunsUptoRow : OpenClaim := { program := "ytdanlpkclkjkcaagreat", sum := "d64641282d42d487ad57140a8aade04bc3a39edc1287f38c4a2d8d1f56e3c79f", func := "switchback/switchbacklaw.DeskRuns", spec := "deskRuns", inPlace := ["slices.overlaps[switchback/api.Slot]"], unfollowed := true, recurses := true, apart := false, narrowed := true }
def DeskRunsUptoSaid : Prop := deskRunsUptoRow.holds Tryz.pinned (OpenSpec.upto deskRunsSpec)

end Rows
end Go.Proofs.YtdanlpkclkjkcaaGreat
