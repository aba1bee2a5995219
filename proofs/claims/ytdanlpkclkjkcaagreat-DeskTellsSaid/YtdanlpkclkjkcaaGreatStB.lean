/- StoreTells, walked. No condition. -/
import Derived.Test.YtdanlpkclkjkcaaGreatStA
section
namespace Go.Proofs.YtdanlpkclkjkcaaGreat
open Go Go.Sy
set_option maxRecDepth 4000
set_option linter.unusedSimpArgs false
set_option linter.unusedVariables false
attribute [local irreducible] Reg RegD Later Out CallV Tri Side EqV
theorem cells_grs {cx : List AV} (h : Reads (.sl 1 24 (.agg [.sl 3 40 (.agg [.int .i64, .bool, .sl 1 16 .str])])) cx) : ∃ l : List (List Fr), cx = [grs l] ∧ l.length ≤ 6000000000000 ∧ ∀ g ∈ l, Fits g := by
  obtain ⟨es, h1, h2, h3⟩ := h
  obtain ⟨l, h4, h5⟩ := map_of (f := grC) (Q := Fits) (es := es) fun x hx => by obtain ⟨g, hg, hq⟩ := cells_gr (h2 x hx); exact ⟨g, hg, hq⟩
  subst h1
  refine ⟨l, by rw [h4], ?_, h5⟩
  rw [h4, List.length_map] at h3
  unfold reachBytes at h3; omega
end Go.Proofs.YtdanlpkclkjkcaaGreat
end
section
namespace Go.Proofs.YtdanlpkclkjkcaaGreat
open Go Go.Sy
set_option maxRecDepth 4000
set_option linter.unusedSimpArgs false
set_option linter.unusedVariables false
attribute [local irreducible] Reg RegD Later Out CallV Tri Side EqV
theorem goS_right : ∀ {l : List (List Fr)}, (∀ g ∈ l, groupE g = 0) → goS l = 0
  | [], _ => rfl
  | g :: l, h => by rw [goS, if_neg (by simp [h g (by simp)])]; exact goS_right fun x hx => h x (by simp [hx])
theorem right_storeE {s : Sto} (h : RightS s) : storeE s = 0 := by
  obtain ⟨h1, h2, h3, h4, h5⟩ := h
  unfold storeE
  rw [if_neg (by omega), if_neg (by omega), goS_right h3, if_neg (by simp), if_neg (by simp [h5])]
  split
  · rename_i hp
    rcases h4 with h4 | h4
    · rw [h4] at hp; simp at hp
    · exact h4
  · rfl
end Go.Proofs.YtdanlpkclkjkcaaGreat
end
section
namespace Go.Proofs.YtdanlpkclkjkcaaGreat
open Go Go.Sy
set_option maxRecDepth 4000
set_option linter.unusedSimpArgs false
set_option linter.unusedVariables false
attribute [local irreducible] Reg RegD Later Out CallV Tri Side EqV
end Go.Proofs.YtdanlpkclkjkcaaGreat
end
