/-
  No cell of these rows narrows 'for every input' (looked for: loops, veiled, ifaces, maps, wideKeys, modest, calm, conditions, laid).
  DERIVED. THE GIVEN ROWS OF THIS SEAT. 9 by the template 'for every input the law returns true; each argument reads behind the call as it read before'; 0 by the template 'total and deterministic' (their statements: YtbhcjgobapnajaaTotals.lean).
  GIVEN WITH THE SEED: the statements are not yours to turn. If you find one false, say at which input.
  Laid BY PROGRAM, IN A SANDBOX (cutbox-rows.mjs): the forced cells as the released guide's own fill.sh prints them over the translation 5112324a8f0ab529… (all of the seat's roots in one cut). By AI agents, Wed Nov 11 2026. No macro, syntax, notation, axiom, sorry.
-/
import Derived.Test.YtbhcjgobapnajaaChecked
import GoSem.Claim
import GoSem.ClaimJoined
import GoSem.ClaimMapViews
import Derived.JoinedTies
import Derived.KernelRfl
namespace Go.Proofs.Ytbhcjgobapnajaa
/- THE CELL 'sum', in the pinned program and in every row, IS THE sha256 OF THE DUMP (.gsa) THAT YtbhcjgobapnajaaProg.lean LOADS. Nothing in Lean hashes anything: it is a label: what it is worth is what the hold of that sum in a sandbox is worth. -/
noncomputable def Try.pinned : Pinned := { name := "ytbhcjgobapnajaa", sum := "5112324a8f0ab529164e7bfe84ab34ef4a677f98b072b06ffa40a0af1bbe159d", checked := Try.checked }
namespace Rows
def none {H : Type} : Left H := { results := [], args := [] }

/-- 'switchbacklaw.DiskParts': WHATEVER THE INPUT: true; the input reads as it did. -/
def diskPartsSpec : ChangeSpec := { name := "diskParts", fn := fun _ => fun
  | [d1, d2] => { results := [.lit (.bool true)], args := [d1, d2] }
  | _ => none }
def diskPartsRow : OpenClaim := { program := "ytbhcjgobapnajaa", sum := "5112324a8f0ab529164e7bfe84ab34ef4a677f98b072b06ffa40a0af1bbe159d", func := "switchback/switchbacklaw.DiskParts", spec := "diskParts", unfollowed := true, recurses := true, apart := false }
def DiskPartsSaid : Prop := diskPartsRow.holds Try.pinned (OpenSpec.ofChange diskPartsSpec)

/-- ITS FALSE NEIGHBOUR: 'it returns false'. Refute it at one input. -/
def diskPartsWrong : ChangeSpec := { name := "diskParts", fn := fun _ => fun
  | [d1, d2] => { results := [.lit (.bool false)], args := [d1, d2] }
  | _ => none }
def DiskPartsWrongFalsely : Prop := diskPartsRow.holds Try.pinned (OpenSpec.ofChange diskPartsWrong)

/-- 'switchbacklaw.DiskTells': WHATEVER THE INPUT: true; the input reads as it did. -/
def diskTellsSpec : ChangeSpec := { name := "diskTells", fn := fun _ => fun
  | [d1, d2, d3, d4] => { results := [.lit (.bool true)], args := [d1, d2, d3, d4] }
  | _ => none }
def diskTellsRow : OpenClaim := { program := "ytbhcjgobapnajaa", sum := "5112324a8f0ab529164e7bfe84ab34ef4a677f98b072b06ffa40a0af1bbe159d", func := "switchback/switchbacklaw.DiskTells", spec := "diskTells", unfollowed := true, recurses := true, apart := false }
def DiskTellsSaid : Prop := diskTellsRow.holds Try.pinned (OpenSpec.ofChange diskTellsSpec)

/-- ITS FALSE NEIGHBOUR: 'it returns false'. Refute it at one input. -/
def diskTellsWrong : ChangeSpec := { name := "diskTells", fn := fun _ => fun
  | [d1, d2, d3, d4] => { results := [.lit (.bool false)], args := [d1, d2, d3, d4] }
  | _ => none }
def DiskTellsWrongFalsely : Prop := diskTellsRow.holds Try.pinned (OpenSpec.ofChange diskTellsWrong)

/-- 'switchbacklaw.DiskCrash': WHATEVER THE INPUT: true; the input reads as it did. -/
def diskCrashSpec : ChangeSpec := { name := "diskCrash", fn := fun _ => fun
  | [d1, d2, d3, d4, d5] => { results := [.lit (.bool true)], args := [d1, d2, d3, d4, d5] }
  | _ => none }
def diskCrashRow : OpenClaim := { program := "ytbhcjgobapnajaa", sum := "5112324a8f0ab529164e7bfe84ab34ef4a677f98b072b06ffa40a0af1bbe159d", func := "switchback/switchbacklaw.DiskCrash", spec := "diskCrash", unfollowed := true, recurses := true, apart := false }
def DiskCrashSaid : Prop := diskCrashRow.holds Try.pinned (OpenSpec.ofChange diskCrashSpec)

/-- ITS FALSE NEIGHBOUR: 'it returns false'. Refute it at one input. -/
def diskCrashWrong : ChangeSpec := { name := "diskCrash", fn := fun _ => fun
  | [d1, d2, d3, d4, d5] => { results := [.lit (.bool false)], args := [d1, d2, d3, d4, d5] }
  | _ => none }
def DiskCrashWrongFalsely : Prop := diskCrashRow.holds Try.pinned (OpenSpec.ofChange diskCrashWrong)

/-- 'switchbacklaw.DiskOpens': WHATEVER THE INPUT: true; the input reads as it did. -/
def diskOpensSpec : ChangeSpec := { name := "diskOpens", fn := fun _ => fun
  | [d1, d2, d3] => { results := [.lit (.bool true)], args := [d1, d2, d3] }
  | _ => none }
def diskOpensRow : OpenClaim := { program := "ytbhcjgobapnajaa", sum := "5112324a8f0ab529164e7bfe84ab34ef4a677f98b072b06ffa40a0af1bbe159d", func := "switchback/switchbacklaw.DiskOpens", spec := "diskOpens", unfollowed := true, recurses := true, apart := false }
def DiskOpensSaid : Prop := diskOpensRow.holds Try.pinned (OpenSpec.ofChange diskOpensSpec)

/-- ITS FALSE NEIGHBOUR: 'it returns false'. Refute it at one input. -/
def diskOpensWrong : ChangeSpec := { name := "diskOpens", fn := fun _ => fun
  | [d1, d2, d3] => { results := [.lit (.bool false)], args := [d1, d2, d3] }
  | _ => none }
def DiskOpensWrongFalsely : Prop := diskOpensRow.holds Try.pinned (OpenSpec.ofChange diskOpensWrong)

/-- 'switchbacklaw.TrackTells': WHATEVER THE INPUT: true; the input reads as it did. -/
def trackTellsSpec : ChangeSpec := { name := "trackTells", fn := fun _ => fun
  | [d1, d2] => { results := [.lit (.bool true)], args := [d1, d2] }
  | _ => none }
def trackTellsRow : OpenClaim := { program := "ytbhcjgobapnajaa", sum := "5112324a8f0ab529164e7bfe84ab34ef4a677f98b072b06ffa40a0af1bbe159d", func := "switchback/switchbacklaw.TrackTells", spec := "trackTells", inPlace := ["slices.overlaps[switchback/api.Slot]"], unfollowed := true, recurses := true, apart := false }
def TrackTellsSaid : Prop := trackTellsRow.holds Try.pinned (OpenSpec.ofChange trackTellsSpec)

/-- ITS FALSE NEIGHBOUR: 'it returns false'. Refute it at one input. -/
def trackTellsWrong : ChangeSpec := { name := "trackTells", fn := fun _ => fun
  | [d1, d2] => { results := [.lit (.bool false)], args := [d1, d2] }
  | _ => none }
def TrackTellsWrongFalsely : Prop := trackTellsRow.holds Try.pinned (OpenSpec.ofChange trackTellsWrong)

/-- 'switchbacklaw.TrackTwice': WHATEVER THE INPUT: true; the input reads as it did. -/
def trackTwiceSpec : ChangeSpec := { name := "trackTwice", fn := fun _ => fun
  | [d1, d2] => { results := [.lit (.bool true)], args := [d1, d2] }
  | _ => none }
def trackTwiceRow : OpenClaim := { program := "ytbhcjgobapnajaa", sum := "5112324a8f0ab529164e7bfe84ab34ef4a677f98b072b06ffa40a0af1bbe159d", func := "switchback/switchbacklaw.TrackTwice", spec := "trackTwice", inPlace := ["slices.overlaps[switchback/api.Slot]"], unfollowed := true, recurses := true, apart := false }
def TrackTwiceSaid : Prop := trackTwiceRow.holds Try.pinned (OpenSpec.ofChange trackTwiceSpec)

/-- ITS FALSE NEIGHBOUR: 'it returns false'. Refute it at one input. -/
def trackTwiceWrong : ChangeSpec := { name := "trackTwice", fn := fun _ => fun
  | [d1, d2] => { results := [.lit (.bool false)], args := [d1, d2] }
  | _ => none }
def TrackTwiceWrongFalsely : Prop := trackTwiceRow.holds Try.pinned (OpenSpec.ofChange trackTwiceWrong)

/-- 'switchbacklaw.TrackOrder': WHATEVER THE INPUT: true; the input reads as it did. -/
def trackOrderSpec : ChangeSpec := { name := "trackOrder", fn := fun _ => fun
  | [d1, d2, d3] => { results := [.lit (.bool true)], args := [d1, d2, d3] }
  | _ => none }
def trackOrderRow : OpenClaim := { program := "ytbhcjgobapnajaa", sum := "5112324a8f0ab529164e7bfe84ab34ef4a677f98b072b06ffa40a0af1bbe159d", func := "switchback/switchbacklaw.TrackOrder", spec := "trackOrder", inPlace := ["slices.overlaps[switchback/api.Slot]"], unfollowed := true, recurses := true, apart := false }
def TrackOrderSaid : Prop := trackOrderRow.holds Try.pinned (OpenSpec.ofChange trackOrderSpec)

/-- ITS FALSE NEIGHBOUR: 'it returns false'. Refute it at one input. -/
def trackOrderWrong : ChangeSpec := { name := "trackOrder", fn := fun _ => fun
  | [d1, d2, d3] => { results := [.lit (.bool false)], args := [d1, d2, d3] }
  | _ => none }
def TrackOrderWrongFalsely : Prop := trackOrderRow.holds Try.pinned (OpenSpec.ofChange trackOrderWrong)

/-- 'switchbacklaw.RestStores': WHATEVER THE INPUT: true; the input reads as it did. -/
def restStoresSpec : ChangeSpec := { name := "restStores", fn := fun _ => fun
  | [d1, d2, d3, d4] => { results := [.lit (.bool true)], args := [d1, d2, d3, d4] }
  | _ => none }
def restStoresRow : OpenClaim := { program := "ytbhcjgobapnajaa", sum := "5112324a8f0ab529164e7bfe84ab34ef4a677f98b072b06ffa40a0af1bbe159d", func := "switchback/switchbacklaw.RestStores", spec := "restStores", unfollowed := true, recurses := true, apart := false }
def RestStoresSaid : Prop := restStoresRow.holds Try.pinned (OpenSpec.ofChange restStoresSpec)

/-- ITS FALSE NEIGHBOUR: 'it returns false'. Refute it at one input. -/
def restStoresWrong : ChangeSpec := { name := "restStores", fn := fun _ => fun
  | [d1, d2, d3, d4] => { results := [.lit (.bool false)], args := [d1, d2, d3, d4] }
  | _ => none }
def RestStoresWrongFalsely : Prop := restStoresRow.holds Try.pinned (OpenSpec.ofChange restStoresWrong)

/-- 'switchbacklaw.DeskPaused': WHATEVER THE INPUT: true; the input reads as it did. -/
def deskPausedSpec : ChangeSpec := { name := "deskPaused", fn := fun _ => fun
  | [d1, d2, d3, d4] => { results := [.lit (.bool true)], args := [d1, d2, d3, d4] }
  | _ => none }
def deskPausedRow : OpenClaim := { program := "ytbhcjgobapnajaa", sum := "5112324a8f0ab529164e7bfe84ab34ef4a677f98b072b06ffa40a0af1bbe159d", func := "switchback/switchbacklaw.DeskPaused", spec := "deskPaused", inPlace := ["slices.overlaps[switchback/api.Slot]"], unfollowed := true, recurses := true, apart := false }
def DeskPausedSaid : Prop := deskPausedRow.holds Try.pinned (OpenSpec.ofChange deskPausedSpec)

/-- ITS FALSE NEIGHBOUR: 'it returns false'. Refute it at one input. -/
def deskPausedWrong : ChangeSpec := { name := "deskPaused", fn := fun _ => fun
  | [d1, d2, d3, d4] => { results := [.lit (.bool false)], args := [d1, d2, d3, d4] }
  | _ => none }
def DeskPausedWrongFalsely : Prop := deskPausedRow.holds Try.pinned (OpenSpec.ofChange deskPausedWrong)

/- THE SECOND FORM. 'bulk': how many values and letters a reading holds, each counted each time it is reached (what is shared counts as often as it is met; a slice's spare places count too). A statement '..UptoSaid' is the law's where the arguments, and the package variables that the reading takes, are together of bulk at most 1048576: NARROWER than '..Said'. Prove '..Said' where nothing that the law and all that it calls make is longer than what came in: it says more and counts as full. Else prove '..UptoSaid'. A law counts once. -/
mutual
def uptoBulk {H : Type} : DataW H → Nat
  | .lit (.string bytes) => bytes.length + 1
  | .lit _ => 1
  | .nil => 1
  | .ptr d => uptoBulk d + 1
  | .slice elems spare => uptoBulkAll elems + uptoBulkAll spare + 1
  | .agg parts => uptoBulkAll parts + 1
  | .iface _ d => uptoBulk d + 1
  | .map entries => uptoBulkEntries entries + 1
  | .held _ => 1
def uptoBulkAll {H : Type} : List (DataW H) → Nat
  | [] => 0
  | d :: r => uptoBulk d + uptoBulkAll r
def uptoBulkEntries {H : Type} : List (Lit × DataW H) → Nat
  | [] => 0
  | x :: r => uptoBulkEntry x + uptoBulkEntries r
def uptoBulkEntry {H : Type} : Lit × DataW H → Nat
  | (.string bytes, d) => bytes.length + uptoBulk d + 1
  | (_, d) => uptoBulk d + 1
 end
def uptoSmall : (H : Type) → List (DataW H) → Bool := fun _ ds => decide (uptoBulkAll ds ≤ 1048576)
def OpenSpec.upto (s : _root_.Go.ChangeSpec) : _root_.Go.OpenSpec := { _root_.Go.OpenSpec.ofChange s with cond := some uptoSmall }

/-- 'switchbacklaw.DiskParts', WHERE WHAT IT READS IS OF BULK AT MOST 1048576: true; the input reads as it did. -/
def diskPartsUptoRow : OpenClaim := { program := "ytbhcjgobapnajaa", sum := "5112324a8f0ab529164e7bfe84ab34ef4a677f98b072b06ffa40a0af1bbe159d", func := "switchback/switchbacklaw.DiskParts", spec := "diskParts", unfollowed := true, recurses := true, apart := false, narrowed := true }
def DiskPartsUptoSaid : Prop := diskPartsUptoRow.holds Try.pinned (OpenSpec.upto diskPartsSpec)

/-- 'switchbacklaw.DiskTells', WHERE WHAT IT READS IS OF BULK AT MOST 1048576: true; the input reads as it did. -/
def diskTellsUptoRow : OpenClaim := { program := "ytbhcjgobapnajaa", sum := "5112324a8f0ab529164e7bfe84ab34ef4a677f98b072b06ffa40a0af1bbe159d", func := "switchback/switchbacklaw.DiskTells", spec := "diskTells", unfollowed := true, recurses := true, apart := false, narrowed := true }
def DiskTellsUptoSaid : Prop := diskTellsUptoRow.holds Try.pinned (OpenSpec.upto diskTellsSpec)

/-- 'switchbacklaw.DiskCrash', WHERE WHAT IT READS IS OF BULK AT MOST 1048576: true; the input reads as it did. -/
def diskCrashUptoRow : OpenClaim := { program := "ytbhcjgobapnajaa", sum := "5112324a8f0ab529164e7bfe84ab34ef4a677f98b072b06ffa40a0af1bbe159d", func := "switchback/switchbacklaw.DiskCrash", spec := "diskCrash", unfollowed := true, recurses := true, apart := false, narrowed := true }
def DiskCrashUptoSaid : Prop := diskCrashUptoRow.holds Try.pinned (OpenSpec.upto diskCrashSpec)

/-- 'switchbacklaw.DiskOpens', WHERE WHAT IT READS IS OF BULK AT MOST 1048576: true; the input reads as it did. -/
def diskOpensUptoRow : OpenClaim := { program := "ytbhcjgobapnajaa", sum := "5112324a8f0ab529164e7bfe84ab34ef4a677f98b072b06ffa40a0af1bbe159d", func := "switchback/switchbacklaw.DiskOpens", spec := "diskOpens", unfollowed := true, recurses := true, apart := false, narrowed := true }
def DiskOpensUptoSaid : Prop := diskOpensUptoRow.holds Try.pinned (OpenSpec.upto diskOpensSpec)

/-- 'switchbacklaw.TrackTells', WHERE WHAT IT READS IS OF BULK AT MOST 1048576: true; the input reads as it did. -/
def trackTellsUptoRow : OpenClaim := { program := "ytbhcjgobapnajaa", sum := "5112324a8f0ab529164e7bfe84ab34ef4a677f98b072b06ffa40a0af1bbe159d", func := "switchback/switchbacklaw.TrackTells", spec := "trackTells", inPlace := ["slices.overlaps[switchback/api.Slot]"], unfollowed := true, recurses := true, apart := false, narrowed := true }
def TrackTellsUptoSaid : Prop := trackTellsUptoRow.holds Try.pinned (OpenSpec.upto trackTellsSpec)

/-- 'switchbacklaw.TrackTwice', WHERE WHAT IT READS IS OF BULK AT MOST 1048576: true; the input reads as it did. -/
def trackTwiceUptoRow : OpenClaim := { program := "ytbhcjgobapnajaa", sum := "5112324a8f0ab529164e7bfe84ab34ef4a677f98b072b06ffa40a0af1bbe159d", func := "switchback/switchbacklaw.TrackTwice", spec := "trackTwice", inPlace := ["slices.overlaps[switchback/api.Slot]"], unfollowed := true, recurses := true, apart := false, narrowed := true }
def TrackTwiceUptoSaid : Prop := trackTwiceUptoRow.holds Try.pinned (OpenSpec.upto trackTwiceSpec)

/-- 'switchbacklaw.TrackOrder', WHERE WHAT IT READS IS OF BULK AT MOST 1048576: true; the input reads as it did. -/
def trackOrderUptoRow : OpenClaim := { program := "ytbhcjgobapnajaa", sum := "5112324a8f0ab529164e7bfe84ab34ef4a677f98b072b06ffa40a0af1bbe159d", func := "switchback/switchbacklaw.TrackOrder", spec := "trackOrder", inPlace := ["slices.overlaps[switchback/api.Slot]"], unfollowed := true, recurses := true, apart := false, narrowed := true }
def TrackOrderUptoSaid : Prop := trackOrderUptoRow.holds Try.pinned (OpenSpec.upto trackOrderSpec)

/-- 'switchbacklaw.RestStores', WHERE WHAT IT READS IS OF BULK AT MOST 1048576: true; the input reads as it did. -/
def restStoresUptoRow : OpenClaim := { program := "ytbhcjgobapnajaa", sum := "5112324a8f0ab529164e7bfe84ab34ef4a677f98b072b06ffa40a0af1bbe159d", func := "switchback/switchbacklaw.RestStores", spec := "restStores", unfollowed := true, recurses := true, apart := false, narrowed := true }
def RestStoresUptoSaid : Prop := restStoresUptoRow.holds Try.pinned (OpenSpec.upto restStoresSpec)

/-- 'switchbacklaw.DeskPaused', WHERE WHAT IT READS IS OF BULK AT MOST 1048576: true; the input reads as it did. -/
def deskPausedUptoRow : OpenClaim := { program := "ytbhcjgobapnajaa", sum := "5112324a8f0ab529164e7bfe84ab34ef4a677f98b072b06ffa40a0af1bbe159d", func := "switchback/switchbacklaw.DeskPaused", spec := "deskPaused", inPlace := ["slices.overlaps[switchback/api.Slot]"], unfollowed := true, recurses := true, apart := false, narrowed := true }
def DeskPausedUptoSaid : Prop := deskPausedUptoRow.holds Try.pinned (OpenSpec.upto deskPausedSpec)

end Rows
end Go.Proofs.Ytbhcjgobapnajaa
