/- Disks: what bytes of a disk tell; plain facts. No condition. -/
import Derived.Test.YtbhcjgobapnajaaWiA
import Derived.Test.YtbhcjgobapnajaaWiB
import Derived.Test.YtbhcjgobapnajaaStA
namespace Go.Proofs.Ytbhcjgobapnajaa
open Go Go.Sy
set_option linter.unusedSimpArgs false
set_option linter.unusedVariables false
structure Dk where
  data : ByteArray
  sync : Int
theorem Dk.ext' {p q : Dk} (h1 : p.data = q.data) (h2 : p.sync = q.sync) : p = q := by cases p; cases q; simp_all
instance : DecidableEq Dk := fun p q => decidable_of_iff (p.data = q.data ∧ p.sync = q.sync) ⟨fun ⟨h1, h2⟩ => Dk.ext' h1 h2, fun h => by subst h; simp⟩
abbrev dkC (d : Dk) : List AV := [Tx d.data, I d.sync]
def dk0 : Dk := ⟨ByteArray.empty, 0⟩
def num (s : ByteArray) (o k : Nat) : Nat := numTo (mid s o k).data.toList
def rdParts (s : ByteArray) : Nat → Nat → Option (List ByteArray × Nat)
  | 0, o => some ([], o)
  | m + 1, o => if o + 1 ≤ s.size ∧ o + 1 + at1 s o ≤ s.size then (match rdParts s m (o + 1 + at1 s o) with | some (l, e) => some (mid s (o + 1) (at1 s o) :: l, e) | none => none) else none
def rdFrames (s : ByteArray) : Nat → Nat → Bool → List Fr × Option Nat
  | 0, o, _ => ([], some o)
  | k + 1, o, key => if o + 5 ≤ s.size then (match rdParts s (at1 s (o + 4)) (o + 5) with
    | some (ps, e) => (⟨num s o 4, key, ps⟩ :: (rdFrames s k e false).1, (rdFrames s k e false).2)
    | none => ([], none)) else ([], none)
structure Rc where
  n : Int
  bytes : Int
  g : List Fr
abbrev rcC (r : Rc) : List AV := [I r.n, I r.bytes, frs r.g]
abbrev rowR (l : List Rc) : List (List AV) := l.map rcC
abbrev rowN (l : List Int) : List (List AV) := l.map fun n => [I n]
def oneX (s : ByteArray) : Rc × Bool := if s.size < 4 then (⟨0, s.size + 2, []⟩, false) else if s.size < 5 then (⟨num s 0 4, s.size + 2, []⟩, false)
  else (⟨num s 0 4, s.size + 2, (rdFrames s (at1 s 4) 5 true).1⟩, decide ((rdFrames s (at1 s 4) 5 true).2 = some s.size) && decide (num s 0 4 ≤ 100000) && decide (groupE (rdFrames s (at1 s 4) 5 true).1 = 0))
def goesB (last : Option Int) (n : Int) : Bool := last.all fun m => decide (n = m + 1)
def diskL (s : ByteArray) : Nat → Nat → Option Int → Option (List Rc)
  | 0, _, _ => some []
  | f + 1, o, last => if s.size < o + 2 then some [] else if s.size < o + 2 + num s o 2 then some []
    else if ((oneX (mid s (o + 2) (num s o 2))).2 && goesB last (oneX (mid s (o + 2) (num s o 2))).1.n) = true then
      (match diskL s f (o + 2 + num s o 2) (some (oneX (mid s (o + 2) (num s o 2))).1.n) with | some l => some ((oneX (mid s (o + 2) (num s o 2))).1 :: l) | none => none)
    else none
def endsL : Int → List Rc → List Int
  | o, [] => [o]
  | o, r :: l => o :: endsL (o + r.bytes) l
def endR : Int → List Rc → Int
  | o, [] => o
  | o, r :: l => endR (o + r.bytes) l
def readR (d : Dk) : (List Rc × List Int) × Int := if 2000 < d.data.size then (([], []), 2) else match diskL d.data d.data.size 0 none with
  | none => (([], []), 1)
  | some l => if d.sync ∈ endsL 0 l then ((l, endsL 0 l), 0) else (([], []), 3)
def dkE (d : Dk) : Int := (readR d).2
end Go.Proofs.Ytbhcjgobapnajaa
