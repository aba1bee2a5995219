/- StoreTells, walked. No condition. -/
import Derived.Test.YtokkencbpmjdaaaGreatStA
section
namespace Go.Proofs.YtokkencbpmjdaaaGreat
open Go Go.Sy
set_option maxRecDepth 4000
set_option linter.unusedSimpArgs false
set_option linter.unusedVariables false
attribute [local irreducible] Reg RegD Later Out CallV Tri Side EqV Pause
end Go.Proofs.YtokkencbpmjdaaaGreat
end
section
namespace Go.Proofs.YtokkencbpmjdaaaGreat
open Go Go.Sy
set_option maxRecDepth 4000
set_option linter.unusedSimpArgs false
set_option linter.unusedVariables false
attribute [local irreducible] Reg RegD Later Out CallV Tri Side EqV Pause
theorem goS_right : ∀ {l : List (List Fr)}, (∀ g ∈ l, groupE g = 0) → goS l = 0
  | [], _ => rfl
  | g :: l, h => by rw [goS, if_neg (by simp [h g (by simp)])]; exact goS_right fun x hx => h x (by simp [hx])
theorem right_storeE {s : Sto} (h : RightS s) : storeE s = 0 := by
  obtain ⟨h1, h2, h3, h4, h5⟩ := h
  unfold storeE
  rw [if_neg (by omega), if_neg (by omega), goS_right h3, if_neg (by simp), if_neg (by simp [h5])]
  split
  · rename_i hp
    rcases h4 with h4 | h4
    · rw [h4] at hp; simp at hp
    · exact h4
  · rfl
end Go.Proofs.YtokkencbpmjdaaaGreat
end
section
namespace Go.Proofs.YtokkencbpmjdaaaGreat
open Go Go.Sy
set_option maxRecDepth 4000
set_option linter.unusedSimpArgs false
set_option linter.unusedVariables false
attribute [local irreducible] Reg RegD Later Out CallV Tri Side EqV Pause
end Go.Proofs.YtokkencbpmjdaaaGreat
end
