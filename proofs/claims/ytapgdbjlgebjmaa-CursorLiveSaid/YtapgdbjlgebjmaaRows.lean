/-
  No cell of these rows narrows 'for every input' (looked for: loops, veiled, ifaces, maps, wideKeys, modest, calm, conditions, laid).
  DERIVED. THE GIVEN ROWS OF THIS SEAT. 12 by the template 'for every input the law returns true; each argument reads behind the call as it read before'; 0 by the template 'total and deterministic' (their statements: YtapgdbjlgebjmaaTotals.lean).
  GIVEN WITH THE SEED: the statements are not yours to turn. If you find one false, say at which input.
  Laid BY PROGRAM, IN A SANDBOX (cutbox-rows.mjs): the forced cells as the released guide's own fill.sh prints them over the translation d4c461c484601cb3… (all of the seat's roots in one cut). By AI agents, Wed Nov 11 2026. No macro, syntax, notation, axiom, sorry.
-/
import Derived.Test.YtapgdbjlgebjmaaChecked
import GoSem.Claim
import GoSem.ClaimJoined
import GoSem.ClaimMapViews
import Derived.JoinedTies
import Derived.KernelRfl
namespace Go.Proofs.Ytapgdbjlgebjmaa
/- THE CELL 'sum', in the pinned program and in every row, IS THE sha256 OF THE DUMP (.gsa) THAT YtapgdbjlgebjmaaProg.lean LOADS. Nothing in Lean hashes anything: it is a label: what it is worth is what the hold of that sum in a sandbox is worth. -/
noncomputable def Try.pinned : Pinned := { name := "ytapgdbjlgebjmaa", sum := "d4c461c484601cb3a89db7c5befab34c3e991f4e929076a16863500f668a6210", checked := Try.checked }
namespace Rows
def none {H : Type} : Left H := { results := [], args := [] }

/-- 'switchbacklaw.GroupTells': WHATEVER THE INPUT: true; the input reads as it did. -/
def groupTellsSpec : ChangeSpec := { name := "groupTells", fn := fun _ => fun
  | [d1, d2] => { results := [.lit (.bool true)], args := [d1, d2] }
  | _ => none }
def groupTellsRow : OpenClaim := { program := "ytapgdbjlgebjmaa", sum := "d4c461c484601cb3a89db7c5befab34c3e991f4e929076a16863500f668a6210", func := "switchback/switchbacklaw.GroupTells", spec := "groupTells", unfollowed := true, recurses := true, apart := false }
def GroupTellsSaid : Prop := groupTellsRow.holds Try.pinned (OpenSpec.ofChange groupTellsSpec)

/-- ITS FALSE NEIGHBOUR: 'it returns false'. Refute it at one input. -/
def groupTellsWrong : ChangeSpec := { name := "groupTells", fn := fun _ => fun
  | [d1, d2] => { results := [.lit (.bool false)], args := [d1, d2] }
  | _ => none }
def GroupTellsWrongFalsely : Prop := groupTellsRow.holds Try.pinned (OpenSpec.ofChange groupTellsWrong)

/-- 'switchbacklaw.GroupBegins': WHATEVER THE INPUT: true; the input reads as it did. -/
def groupBeginsSpec : ChangeSpec := { name := "groupBegins", fn := fun _ => fun
  | [d] => { results := [.lit (.bool true)], args := [d] }
  | _ => none }
def groupBeginsRow : OpenClaim := { program := "ytapgdbjlgebjmaa", sum := "d4c461c484601cb3a89db7c5befab34c3e991f4e929076a16863500f668a6210", func := "switchback/switchbacklaw.GroupBegins", spec := "groupBegins", unfollowed := true, recurses := true, apart := false }
def GroupBeginsSaid : Prop := groupBeginsRow.holds Try.pinned (OpenSpec.ofChange groupBeginsSpec)

/-- ITS FALSE NEIGHBOUR: 'it returns false'. Refute it at one input. -/
def groupBeginsWrong : ChangeSpec := { name := "groupBegins", fn := fun _ => fun
  | [d] => { results := [.lit (.bool false)], args := [d] }
  | _ => none }
def GroupBeginsWrongFalsely : Prop := groupBeginsRow.holds Try.pinned (OpenSpec.ofChange groupBeginsWrong)

/-- 'switchbacklaw.GroupParts': WHATEVER THE INPUT: true; the input reads as it did. -/
def groupPartsSpec : ChangeSpec := { name := "groupParts", fn := fun _ => fun
  | [d1, d2] => { results := [.lit (.bool true)], args := [d1, d2] }
  | _ => none }
def groupPartsRow : OpenClaim := { program := "ytapgdbjlgebjmaa", sum := "d4c461c484601cb3a89db7c5befab34c3e991f4e929076a16863500f668a6210", func := "switchback/switchbacklaw.GroupParts", spec := "groupParts", unfollowed := true, recurses := true, apart := false }
def GroupPartsSaid : Prop := groupPartsRow.holds Try.pinned (OpenSpec.ofChange groupPartsSpec)

/-- ITS FALSE NEIGHBOUR: 'it returns false'. Refute it at one input. -/
def groupPartsWrong : ChangeSpec := { name := "groupParts", fn := fun _ => fun
  | [d1, d2] => { results := [.lit (.bool false)], args := [d1, d2] }
  | _ => none }
def GroupPartsWrongFalsely : Prop := groupPartsRow.holds Try.pinned (OpenSpec.ofChange groupPartsWrong)

/-- 'switchbacklaw.FrameTells': WHATEVER THE INPUT: true; the input reads as it did. -/
def frameTellsSpec : ChangeSpec := { name := "frameTells", fn := fun _ => fun
  | [d1, d2, d3, d4] => { results := [.lit (.bool true)], args := [d1, d2, d3, d4] }
  | _ => none }
def frameTellsRow : OpenClaim := { program := "ytapgdbjlgebjmaa", sum := "d4c461c484601cb3a89db7c5befab34c3e991f4e929076a16863500f668a6210", func := "switchback/switchbacklaw.FrameTells", spec := "frameTells", unfollowed := true, recurses := true, apart := false }
def FrameTellsSaid : Prop := frameTellsRow.holds Try.pinned (OpenSpec.ofChange frameTellsSpec)

/-- ITS FALSE NEIGHBOUR: 'it returns false'. Refute it at one input. -/
def frameTellsWrong : ChangeSpec := { name := "frameTells", fn := fun _ => fun
  | [d1, d2, d3, d4] => { results := [.lit (.bool false)], args := [d1, d2, d3, d4] }
  | _ => none }
def FrameTellsWrongFalsely : Prop := frameTellsRow.holds Try.pinned (OpenSpec.ofChange frameTellsWrong)

/-- 'switchbacklaw.FrameWhole': WHATEVER THE INPUT: true; the input reads as it did. -/
def frameWholeSpec : ChangeSpec := { name := "frameWhole", fn := fun _ => fun
  | [d1, d2] => { results := [.lit (.bool true)], args := [d1, d2] }
  | _ => none }
def frameWholeRow : OpenClaim := { program := "ytapgdbjlgebjmaa", sum := "d4c461c484601cb3a89db7c5befab34c3e991f4e929076a16863500f668a6210", func := "switchback/switchbacklaw.FrameWhole", spec := "frameWhole", unfollowed := true, recurses := true, apart := false }
def FrameWholeSaid : Prop := frameWholeRow.holds Try.pinned (OpenSpec.ofChange frameWholeSpec)

/-- ITS FALSE NEIGHBOUR: 'it returns false'. Refute it at one input. -/
def frameWholeWrong : ChangeSpec := { name := "frameWhole", fn := fun _ => fun
  | [d1, d2] => { results := [.lit (.bool false)], args := [d1, d2] }
  | _ => none }
def FrameWholeWrongFalsely : Prop := frameWholeRow.holds Try.pinned (OpenSpec.ofChange frameWholeWrong)

/-- 'switchbacklaw.FrameParts': WHATEVER THE INPUT: true; the input reads as it did. -/
def framePartsSpec : ChangeSpec := { name := "frameParts", fn := fun _ => fun
  | [d1, d2] => { results := [.lit (.bool true)], args := [d1, d2] }
  | _ => none }
def framePartsRow : OpenClaim := { program := "ytapgdbjlgebjmaa", sum := "d4c461c484601cb3a89db7c5befab34c3e991f4e929076a16863500f668a6210", func := "switchback/switchbacklaw.FrameParts", spec := "frameParts", unfollowed := true, recurses := true, apart := false }
def FramePartsSaid : Prop := framePartsRow.holds Try.pinned (OpenSpec.ofChange framePartsSpec)

/-- ITS FALSE NEIGHBOUR: 'it returns false'. Refute it at one input. -/
def framePartsWrong : ChangeSpec := { name := "frameParts", fn := fun _ => fun
  | [d1, d2] => { results := [.lit (.bool false)], args := [d1, d2] }
  | _ => none }
def FramePartsWrongFalsely : Prop := framePartsRow.holds Try.pinned (OpenSpec.ofChange framePartsWrong)

/-- 'switchbacklaw.OutGoes': WHATEVER THE INPUT: true; the input reads as it did. -/
def outGoesSpec : ChangeSpec := { name := "outGoes", fn := fun _ => fun
  | [d1, d2, d3] => { results := [.lit (.bool true)], args := [d1, d2, d3] }
  | _ => none }
def outGoesRow : OpenClaim := { program := "ytapgdbjlgebjmaa", sum := "d4c461c484601cb3a89db7c5befab34c3e991f4e929076a16863500f668a6210", func := "switchback/switchbacklaw.OutGoes", spec := "outGoes", unfollowed := true, recurses := true, apart := false }
def OutGoesSaid : Prop := outGoesRow.holds Try.pinned (OpenSpec.ofChange outGoesSpec)

/-- ITS FALSE NEIGHBOUR: 'it returns false'. Refute it at one input. -/
def outGoesWrong : ChangeSpec := { name := "outGoes", fn := fun _ => fun
  | [d1, d2, d3] => { results := [.lit (.bool false)], args := [d1, d2, d3] }
  | _ => none }
def OutGoesWrongFalsely : Prop := outGoesRow.holds Try.pinned (OpenSpec.ofChange outGoesWrong)

/-- 'switchbacklaw.StoreTells': WHATEVER THE INPUT: true; the input reads as it did. -/
def storeTellsSpec : ChangeSpec := { name := "storeTells", fn := fun _ => fun
  | [d1, d2, d3, d4] => { results := [.lit (.bool true)], args := [d1, d2, d3, d4] }
  | _ => none }
def storeTellsRow : OpenClaim := { program := "ytapgdbjlgebjmaa", sum := "d4c461c484601cb3a89db7c5befab34c3e991f4e929076a16863500f668a6210", func := "switchback/switchbacklaw.StoreTells", spec := "storeTells", unfollowed := true, recurses := true, apart := false }
def StoreTellsSaid : Prop := storeTellsRow.holds Try.pinned (OpenSpec.ofChange storeTellsSpec)

/-- ITS FALSE NEIGHBOUR: 'it returns false'. Refute it at one input. -/
def storeTellsWrong : ChangeSpec := { name := "storeTells", fn := fun _ => fun
  | [d1, d2, d3, d4] => { results := [.lit (.bool false)], args := [d1, d2, d3, d4] }
  | _ => none }
def StoreTellsWrongFalsely : Prop := storeTellsRow.holds Try.pinned (OpenSpec.ofChange storeTellsWrong)

/-- 'switchbacklaw.StoreStays': WHATEVER THE INPUT: true; the input reads as it did. -/
def storeStaysSpec : ChangeSpec := { name := "storeStays", fn := fun _ => fun
  | [d1, d2] => { results := [.lit (.bool true)], args := [d1, d2] }
  | _ => none }
def storeStaysRow : OpenClaim := { program := "ytapgdbjlgebjmaa", sum := "d4c461c484601cb3a89db7c5befab34c3e991f4e929076a16863500f668a6210", func := "switchback/switchbacklaw.StoreStays", spec := "storeStays", unfollowed := true, recurses := true, apart := false }
def StoreStaysSaid : Prop := storeStaysRow.holds Try.pinned (OpenSpec.ofChange storeStaysSpec)

/-- ITS FALSE NEIGHBOUR: 'it returns false'. Refute it at one input. -/
def storeStaysWrong : ChangeSpec := { name := "storeStays", fn := fun _ => fun
  | [d1, d2] => { results := [.lit (.bool false)], args := [d1, d2] }
  | _ => none }
def StoreStaysWrongFalsely : Prop := storeStaysRow.holds Try.pinned (OpenSpec.ofChange storeStaysWrong)

/-- 'switchbacklaw.StoreSeeks': WHATEVER THE INPUT: true; the input reads as it did. -/
def storeSeeksSpec : ChangeSpec := { name := "storeSeeks", fn := fun _ => fun
  | [d1, d2] => { results := [.lit (.bool true)], args := [d1, d2] }
  | _ => none }
def storeSeeksRow : OpenClaim := { program := "ytapgdbjlgebjmaa", sum := "d4c461c484601cb3a89db7c5befab34c3e991f4e929076a16863500f668a6210", func := "switchback/switchbacklaw.StoreSeeks", spec := "storeSeeks", unfollowed := true, recurses := true, apart := false }
def StoreSeeksSaid : Prop := storeSeeksRow.holds Try.pinned (OpenSpec.ofChange storeSeeksSpec)

/-- ITS FALSE NEIGHBOUR: 'it returns false'. Refute it at one input. -/
def storeSeeksWrong : ChangeSpec := { name := "storeSeeks", fn := fun _ => fun
  | [d1, d2] => { results := [.lit (.bool false)], args := [d1, d2] }
  | _ => none }
def StoreSeeksWrongFalsely : Prop := storeSeeksRow.holds Try.pinned (OpenSpec.ofChange storeSeeksWrong)

/-- 'switchbacklaw.CursorTells': WHATEVER THE INPUT: true; the input reads as it did. -/
def cursorTellsSpec : ChangeSpec := { name := "cursorTells", fn := fun _ => fun
  | [d1, d2, d3, d4] => { results := [.lit (.bool true)], args := [d1, d2, d3, d4] }
  | _ => none }
def cursorTellsRow : OpenClaim := { program := "ytapgdbjlgebjmaa", sum := "d4c461c484601cb3a89db7c5befab34c3e991f4e929076a16863500f668a6210", func := "switchback/switchbacklaw.CursorTells", spec := "cursorTells", unfollowed := true, recurses := true, apart := false }
def CursorTellsSaid : Prop := cursorTellsRow.holds Try.pinned (OpenSpec.ofChange cursorTellsSpec)

/-- ITS FALSE NEIGHBOUR: 'it returns false'. Refute it at one input. -/
def cursorTellsWrong : ChangeSpec := { name := "cursorTells", fn := fun _ => fun
  | [d1, d2, d3, d4] => { results := [.lit (.bool false)], args := [d1, d2, d3, d4] }
  | _ => none }
def CursorTellsWrongFalsely : Prop := cursorTellsRow.holds Try.pinned (OpenSpec.ofChange cursorTellsWrong)

/-- 'switchbacklaw.CursorLive': WHATEVER THE INPUT: true; the input reads as it did. -/
def cursorLiveSpec : ChangeSpec := { name := "cursorLive", fn := fun _ => fun
  | [d1, d2] => { results := [.lit (.bool true)], args := [d1, d2] }
  | _ => none }
def cursorLiveRow : OpenClaim := { program := "ytapgdbjlgebjmaa", sum := "d4c461c484601cb3a89db7c5befab34c3e991f4e929076a16863500f668a6210", func := "switchback/switchbacklaw.CursorLive", spec := "cursorLive", unfollowed := true, recurses := true, apart := false }
def CursorLiveSaid : Prop := cursorLiveRow.holds Try.pinned (OpenSpec.ofChange cursorLiveSpec)

/-- ITS FALSE NEIGHBOUR: 'it returns false'. Refute it at one input. -/
def cursorLiveWrong : ChangeSpec := { name := "cursorLive", fn := fun _ => fun
  | [d1, d2] => { results := [.lit (.bool false)], args := [d1, d2] }
  | _ => none }
def CursorLiveWrongFalsely : Prop := cursorLiveRow.holds Try.pinned (OpenSpec.ofChange cursorLiveWrong)

/- THE SECOND FORM. 'bulk': how many values and letters a reading holds, each counted each time it is reached (what is shared counts as often as it is met; a slice's spare places count too). A statement '..UptoSaid' is the law's where the arguments, and the package variables that the reading takes, are together of bulk at most 1048576: NARROWER than '..Said'. Prove '..Said' where nothing that the law and all that it calls make is longer than what came in: it says more and counts as full. Else prove '..UptoSaid'. A law counts once. -/
mutual
def uptoBulk {H : Type} : DataW H → Nat
  | .lit (.string bytes) => bytes.length + 1
  | .lit _ => 1
  | .nil => 1
  | .ptr d => uptoBulk d + 1
  | .slice elems spare => uptoBulkAll elems + uptoBulkAll spare + 1
  | .agg parts => uptoBulkAll parts + 1
  | .iface _ d => uptoBulk d + 1
  | .map entries => uptoBulkEntries entries + 1
  | .held _ => 1
def uptoBulkAll {H : Type} : List (DataW H) → Nat
  | [] => 0
  | d :: r => uptoBulk d + uptoBulkAll r
def uptoBulkEntries {H : Type} : List (Lit × DataW H) → Nat
  | [] => 0
  | x :: r => uptoBulkEntry x + uptoBulkEntries r
def uptoBulkEntry {H : Type} : Lit × DataW H → Nat
  | (.string bytes, d) => bytes.length + uptoBulk d + 1
  | (_, d) => uptoBulk d + 1
 end
def uptoSmall : (H : Type) → List (DataW H) → Bool := fun _ ds => decide (uptoBulkAll ds ≤ 1048576)
def OpenSpec.upto (s : _root_.Go.ChangeSpec) : _root_.Go.OpenSpec := { _root_.Go.OpenSpec.ofChange s with cond := some uptoSmall }

/-- 'switchbacklaw.GroupTells', WHERE WHAT IT READS IS OF BULK AT MOST 1048576: true; the input reads as it did. -/
def groupTellsUptoRow : OpenClaim := { program := "ytapgdbjlgebjmaa", sum := "d4c461c484601cb3a89db7c5befab34c3e991f4e929076a16863500f668a6210", func := "switchback/switchbacklaw.GroupTells", spec := "groupTells", unfollowed := true, recurses := true, apart := false, narrowed := true }
def GroupTellsUptoSaid : Prop := groupTellsUptoRow.holds Try.pinned (OpenSpec.upto groupTellsSpec)

/-- 'switchbacklaw.GroupBegins', WHERE WHAT IT READS IS OF BULK AT MOST 1048576: true; the input reads as it did. -/
def groupBeginsUptoRow : OpenClaim := { program := "ytapgdbjlgebjmaa", sum := "d4c461c484601cb3a89db7c5befab34c3e991f4e929076a16863500f668a6210", func := "switchback/switchbacklaw.GroupBegins", spec := "groupBegins", unfollowed := true, recurses := true, apart := false, narrowed := true }
def GroupBeginsUptoSaid : Prop := groupBeginsUptoRow.holds Try.pinned (OpenSpec.upto groupBeginsSpec)

/-- 'switchbacklaw.GroupParts', WHERE WHAT IT READS IS OF BULK AT MOST 1048576: true; the input reads as it did. -/
def groupPartsUptoRow : OpenClaim := { program := "ytapgdbjlgebjmaa", sum := "d4c461c484601cb3a89db7c5befab34c3e991f4e929076a16863500f668a6210", func := "switchback/switchbacklaw.GroupParts", spec := "groupParts", unfollowed := true, recurses := true, apart := false, narrowed := true }
def GroupPartsUptoSaid : Prop := groupPartsUptoRow.holds Try.pinned (OpenSpec.upto groupPartsSpec)

/-- 'switchbacklaw.FrameTells', WHERE WHAT IT READS IS OF BULK AT MOST 1048576: true; the input reads as it did. -/
def frameTellsUptoRow : OpenClaim := { program := "ytapgdbjlgebjmaa", sum := "d4c461c484601cb3a89db7c5befab34c3e991f4e929076a16863500f668a6210", func := "switchback/switchbacklaw.FrameTells", spec := "frameTells", unfollowed := true, recurses := true, apart := false, narrowed := true }
def FrameTellsUptoSaid : Prop := frameTellsUptoRow.holds Try.pinned (OpenSpec.upto frameTellsSpec)

/-- 'switchbacklaw.FrameWhole', WHERE WHAT IT READS IS OF BULK AT MOST 1048576: true; the input reads as it did. -/
def frameWholeUptoRow : OpenClaim := { program := "ytapgdbjlgebjmaa", sum := "d4c461c484601cb3a89db7c5befab34c3e991f4e929076a16863500f668a6210", func := "switchback/switchbacklaw.FrameWhole", spec := "frameWhole", unfollowed := true, recurses := true, apart := false, narrowed := true }
def FrameWholeUptoSaid : Prop := frameWholeUptoRow.holds Try.pinned (OpenSpec.upto frameWholeSpec)

/-- 'switchbacklaw.FrameParts', WHERE WHAT IT READS IS OF BULK AT MOST 1048576: true; the input reads as it did. -/
def framePartsUptoRow : OpenClaim := { program := "ytapgdbjlgebjmaa", sum := "d4c461c484601cb3a89db7c5befab34c3e991f4e929076a16863500f668a6210", func := "switchback/switchbacklaw.FrameParts", spec := "frameParts", unfollowed := true, recurses := true, apart := false, narrowed := true }
def FramePartsUptoSaid : Prop := framePartsUptoRow.holds Try.pinned (OpenSpec.upto framePartsSpec)

/-- 'switchbacklaw.OutGoes', WHERE WHAT IT READS IS OF BULK AT MOST 1048576: true; the input reads as it did. -/
def outGoesUptoRow : OpenClaim := { program := "ytapgdbjlgebjmaa", sum := "d4c461c484601cb3a89db7c5befab34c3e991f4e929076a16863500f668a6210", func := "switchback/switchbacklaw.OutGoes", spec := "outGoes", unfollowed := true, recurses := true, apart := false, narrowed := true }
def OutGoesUptoSaid : Prop := outGoesUptoRow.holds Try.pinned (OpenSpec.upto outGoesSpec)

/-- 'switchbacklaw.StoreTells', WHERE WHAT IT READS IS OF BULK AT MOST 1048576: true; the input reads as it did. -/
def storeTellsUptoRow : OpenClaim := { program := "ytapgdbjlgebjmaa", sum := "d4c461c484601cb3a89db7c5befab34c3e991f4e929076a16863500f668a6210", func := "switchback/switchbacklaw.StoreTells", spec := "storeTells", unfollowed := true, recurses := true, apart := false, narrowed := true }
def StoreTellsUptoSaid : Prop := storeTellsUptoRow.holds Try.pinned (OpenSpec.upto storeTellsSpec)

/-- 'switchbacklaw.StoreStays', WHERE WHAT IT READS IS OF BULK AT MOST 1048576: true; the input reads as it did. -/
def storeStaysUptoRow : OpenClaim := { program := "ytapgdbjlgebjmaa", sum := "d4c461c484601cb3a89db7c5befab34c3e991f4e929076a16863500f668a6210", func := "switchback/switchbacklaw.StoreStays", spec := "storeStays", unfollowed := true, recurses := true, apart := false, narrowed := true }
def StoreStaysUptoSaid : Prop := storeStaysUptoRow.holds Try.pinned (OpenSpec.upto storeStaysSpec)

/-- 'switchbacklaw.StoreSeeks', WHERE WHAT IT READS IS OF BULK AT MOST 1048576: true; the input reads as it did. -/
def storeSeeksUptoRow : OpenClaim := { program := "ytapgdbjlgebjmaa", sum := "d4c461c484601cb3a89db7c5befab34c3e991f4e929076a16863500f668a6210", func := "switchback/switchbacklaw.StoreSeeks", spec := "storeSeeks", unfollowed := true, recurses := true, apart := false, narrowed := true }
def StoreSeeksUptoSaid : Prop := storeSeeksUptoRow.holds Try.pinned (OpenSpec.upto storeSeeksSpec)

/-- 'switchbacklaw.CursorTells', WHERE WHAT IT READS IS OF BULK AT MOST 1048576: true; the input reads as it did. -/
def cursorTellsUptoRow : OpenClaim := { program := "ytapgdbjlgebjmaa", sum := "d4c461c484601cb3a89db7c5befab34c3e991f4e929076a16863500f668a6210", func := "switchback/switchbacklaw.CursorTells", spec := "cursorTells", unfollowed := true, recurses := true, apart := false, narrowed := true }
def CursorTellsUptoSaid : Prop := cursorTellsUptoRow.holds Try.pinned (OpenSpec.upto cursorTellsSpec)

/-- 'switchbacklaw.CursorLive', WHERE WHAT IT READS IS OF BULK AT MOST 1048576: true; the input reads as it did. -/
def cursorLiveUptoRow : OpenClaim := { program := "ytapgdbjlgebjmaa", sum := "d4c461c484601cb3a89db7c5befab34c3e991f4e929076a16863500f668a6210", func := "switchback/switchbacklaw.CursorLive", spec := "cursorLive", unfollowed := true, recurses := true, apart := false, narrowed := true }
def CursorLiveUptoSaid : Prop := cursorLiveUptoRow.holds Try.pinned (OpenSpec.upto cursorLiveSpec)

end Rows
end Go.Proofs.Ytapgdbjlgebjmaa
