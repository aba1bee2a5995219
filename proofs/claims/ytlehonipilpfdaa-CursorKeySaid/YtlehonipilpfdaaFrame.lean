/- Walks of package frame. No condition. -/
import Derived.Test.YtlehonipilpfdaaSlot
import Derived.Test.YtlehonipilpfdaaClone
namespace Go.Proofs.Ytlehonipilpfdaa
open Go Go.Sy
set_option maxRecDepth 4000
set_option linter.unusedSimpArgs false
set_option linter.unusedVariables false
attribute [local irreducible] Reg RegD Later Out CallV Tri Side EqV
def madeS (o : List Slt) : Fr := ⟨((o[0]?).map (·.p.time)).getD 0, ((o[0]?).map (·.p.key)).getD false, o.map (·.p.text)⟩
def fr0 : Fr := ⟨0, false, []⟩
/-- What is open behind a slot. -/
def openS (o : List Slt) (x : Slt) : List Slt := if x.p.first = true then [x] else match o.getLast? with
  | some a => if followsB a x = true then o ++ [x] else []
  | none => []
def addS (o : List Slt) (x : Slt) : List Slt × Fr × Bool := if openS o x ≠ [] ∧ x.p.fin = true then ([], madeS (openS o x), true) else if (openS o x).length = 4 then ([], fr0, false) else (openS o x, fr0, false)
theorem map_texts {o : List Slt} {i : Nat} {x : Slt} (h : o[i]? = some x) : (o.take (i + 1)).map (·.p.text) = (o.take i).map (·.p.text) ++ [x.p.text] := by
  rw [take_at h, List.map_append]; rfl
def addT (o : List Slt) (x : Slt) : AV := .tup [.agg (frC (addS o x).2.1), B (addS o x).2.2]
theorem last_slt {o : List Slt} {x : Slt} (hl : o.length ≤ 1000000) (h : o[(IntKind.i64.wrap ((o.length : Int) - 1)).toNat]? = some x) (h0 : 0 < o.length) : o.getLast? = some x := by
  rw [wrp (by omega) (by omega), show ((o.length : Int) - 1).toNat = o.length - 1 by omega] at h
  rw [List.getLast?_eq_getElem?, h]
/-- What is open is of right slots, and not too much. -/
def RightO (o : List Slt) : Prop := o.length ≤ 1000 ∧ ∀ a ∈ o, -1000000000000 ≤ a.n ∧ a.n ≤ 1000000000000
def rawT (o : List Slt) (x : Slt) : AV := .tup [.agg [slts (addS o x).1], .agg (frC (addS o x).2.1), B (addS o x).2.2]
def badS (p : Option Slt) (x : Slt) : Bool := match p with
  | none => !x.p.first || x.p.fin
  | some a => x.p.fin || !followsB a x
def goB : Option Slt → List Slt → Int
  | _, [] => 0
  | p, x :: l => if sltE x ≠ 0 then sltE x else if badS p x = true then 4 else goB (some x) l
def buildE (o : List Slt) : Int := if 4 ≤ o.length then 2 else goB none o
def prevS (o : List Slt) (i : Nat) : Option Slt := if i = 0 then none else o[i - 1]?
section
variable {o : List Slt} {i : Nat} {x : Slt}
theorem prevS_succ (h : o[i]? = some x) : prevS o (i + 1) = some x := by simp [prevS, h]
theorem goB_end (h : goB (prevS o i) (o.drop i) = goB none o) (hi : o.length ≤ i) : goB none o = 0 := by rw [← h, List.drop_eq_nil_of_le hi]; rfl
theorem goB_bad (h : goB (prevS o i) (o.drop i) = goB none o) (hx : o[i]? = some x) (hf : ¬ sltE x = 0) : goB none o = sltE x := by rw [← h, drop_at hx, goB, if_pos hf]
theorem goB_four (h : goB (prevS o i) (o.drop i) = goB none o) (hx : o[i]? = some x) (hf : sltE x = 0) (hb : badS (prevS o i) x = true) : goB none o = 4 := by rw [← h, drop_at hx, goB, if_neg (by simp [hf]), if_pos hb]
theorem goB_next (h : goB (prevS o i) (o.drop i) = goB none o) (hx : o[i]? = some x) (hf : sltE x = 0) (hb : badS (prevS o i) x = false) : goB (prevS o (i + 1)) (o.drop (i + 1)) = goB none o := by
  rw [← h, drop_at hx, goB, if_neg (by simp [hf]), if_neg (by simp [hb]), prevS_succ hx]
theorem badS_zero (h : i = 0) : badS (prevS o i) x = (!x.p.first || x.p.fin) := by rw [prevS, if_pos h]; rfl
theorem badS_fin (hi : i < o.length) (hk : x.p.fin = true) : badS (prevS o i) x = true := by
  unfold prevS
  split
  · simp [badS, hk]
  · obtain ⟨y, hy⟩ : ∃ y, o[i - 1]? = some y := ⟨o[i - 1]'(by omega), by simp⟩
    rw [hy]; simp [badS, hk]
end
end Go.Proofs.Ytlehonipilpfdaa
