/- DeskRuns, walked. No condition. -/
import Derived.Test.YtokkencbpmjdaaaGreatDeskW
namespace Go.Proofs.YtokkencbpmjdaaaGreat
open Go Go.Sy
set_option maxRecDepth 4000
set_option linter.unusedSimpArgs false
attribute [local irreducible] Reg RegD Later Out CallV Tri Side EqV Pause
theorem runL_ok : ∀ (l : List Ac) (d : Ds) (es : List Int), RightT d.t → OkV d.v → RightT (runL l d es).1.t ∧ OkV (runL l d es).1.v ∧ (runL l d es).1.l.length ≤ d.l.length + 404 * l.length ∧ (runL l d es).2.length = es.length + l.length
  | [], d, es, h1, h2 => ⟨h1, h2, by simp [runL], by simp [runL]⟩
  | a :: l, d, es, h1, h2 => by
    rw [runL]
    by_cases c : (actR d.t d.v a).2 = 0
    · rw [if_pos c]
      obtain ⟨_, _, k1, k2, k3⟩ := actR_ok h1 h2 c
      obtain ⟨j1, j2, j3, j4⟩ := runL_ok l ⟨(actR d.t d.v a).1.v, (actR d.t d.v a).1.t, d.l ++ (actR d.t d.v a).1.l⟩ (es ++ [(actR d.t d.v a).2]) k1 k2
      refine ⟨j1, j2, ?_, ?_⟩
      · simp only [List.length_append, List.length_cons] at j3 ⊢; omega
      · simp only [List.length_append, List.length_cons, List.length_nil] at j4 ⊢; omega
    · rw [if_neg c]
      obtain ⟨j1, j2, j3, j4⟩ := runL_ok l d (es ++ [(actR d.t d.v a).2]) h1 h2
      refine ⟨j1, j2, ?_, ?_⟩
      · simp only [List.length_cons] at j3 ⊢; omega
      · simp only [List.length_append, List.length_cons, List.length_nil] at j4 ⊢; omega
theorem runS_ok (l : List Ac) : RightT (runS l).1.1.t ∧ OkV (runS l).1.1.v ∧ (runS l).1.1.l.length ≤ 30000 ∧ (runS l).1.2.length ≤ 60 := by
  unfold runS
  split
  · exact ⟨tk0_right, vw0_ok, by simp [ds0], by simp⟩
  · obtain ⟨j1, j2, j3, j4⟩ := runL_ok l ds0 [] tk0_right vw0_ok
    simp only [ds0, List.length_nil] at j3 j4
    exact ⟨j1, j2, by simp only [ds0]; omega, by simp only [ds0]; omega⟩
theorem cells_act {cx : List AV} (h : ReadsL [.int .i64, .int .i64, .str] cx) : ∃ a : Ac, cx = acC a ∧ a.text.size ≤ reachBytes := by
  obtain ⟨_, _, rfl, ⟨k, rfl, _⟩, _, _, rfl, ⟨n, rfl, _⟩, _, _, rfl, ⟨s, rfl, hs⟩, rfl⟩ := h
  exact ⟨⟨k, n, s⟩, rfl, hs⟩
end Go.Proofs.YtokkencbpmjdaaaGreat
